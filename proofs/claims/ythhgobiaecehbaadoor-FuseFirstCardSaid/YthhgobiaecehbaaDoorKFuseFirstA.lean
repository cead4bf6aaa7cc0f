import Derived.Test.YthhgobiaecehbaaDoorKGFuD
import Derived.Below
import Derived.Deep.Draws
import Derived.Deep.AppendLies
import Derived.Maps.AppendAt
import Derived.OwnWalk
import Derived.Laws.BytesArg
import Derived.Laws.MakeOwn
import Derived.Laws.OwnMore
import Derived.Deep.OwnRows
import Derived.Tactics
import Derived.Lib.ConvBytes
import Derived.Laws.Slices
import Derived.WalkKit
import Derived.KernelRfl
import Derived.RowKit3
import Derived.Deep.LoopGhost
import Derived.Deep.QuietTactic
import Derived.BigQuiet
import Derived.WideLaws
import Derived.Deep.DeepCutAuto
import Derived.Deep.CutBlock
import Derived.Deep.RegionHeld3
import Derived.Laws.Rows
import Derived.Lib.AppendStr
import Derived.ArgAppend
import Derived.Laws.IdiomCopy
import Derived.RowKit
import Derived.OrdersHeld
import Derived.Laws.BitsLemmas
import Derived.Laws.StructEq
import Derived.Test.YthhgobiaecehbaaDoorProg
import Derived.Handy
import Derived.Shelf.Unicode.DecodeSlow
import Derived.Ground.NamesProg
import Derived.Shelf.Unicode.ValidAny
import Derived.Laws.RangeString
import Derived.Laws.RangeAny
import Derived.Lib.RuneCount
import Derived.Laws.IdiomStrings
import Derived.Laws.Cover4
import Derived.Great.BuildSlice
section
namespace Go.Proofs.YthhgobiaecehbaaDoor.F
open Go.RowKit Go.Proofs.YthhgobiaecehbaaDoorW.PrintWords Go.Proofs.YthhgobiaecehbaaDoorW.PrintLast Go.Proofs.YthhgobiaecehbaaDoorW.PrintMore
attribute [local go_sem] max2_int min2_int max_two min_two max_three min_three max_four min_four cell_setCell_isSome
set_option linter.unusedVariables false
set_option linter.unusedSimpArgs false
def epitomelaw10_FuseFirst.j0 : Nat → Int → List (List (S41)) → Int → Int → Bool → Option (Bool)
  | 0, _, _, _, _, _ => none
  | k + 1, x8, x9, x10, x11, x47 => if x47 = true then (some false) else ((some (([] : List (List (S41))) : List (List (S41)))).bind fun y112 => (if 0 ≤ x10 then (if x10 ≤ (x9.length : Int) then ((some (x9.take (x10 : Int).toNat : List (List (S41)))).bind fun y115 => (if y112.length + y115.length < 5864062014805 then ((some (y112 ++ y115 : List (List (S41)))).bind fun y120 => (if y120.length < 5864062014805 then ((some (y120 ++ [(([(⟨1, wrap64 (x11 + 1), (⟨#[]⟩ : ByteArray)⟩ : S41)] : List (S41)))] : List (List (S41)))).bind fun y126 => (if y126.length < 5864062014805 then ((some (y126 ++ [(([(⟨0, 0, (⟨#[]⟩ : ByteArray)⟩ : S41)] : List (S41)))] : List (List (S41)))).bind fun y132 => ((some (x9.drop (x10 : Int).toNat : List (List (S41)))).bind fun y135 => (if y132.length + y135.length < 5864062014805 then ((some (y132 ++ y135 : List (List (S41)))).bind fun y140 => ((some (([] : List (List (S41))) : List (List (S41)))).bind fun y143 => ((some (x9.take (x10 : Int).toNat : List (List (S41)))).bind fun y146 => (if y143.length + y146.length < 5864062014805 then ((some (y143 ++ y146 : List (List (S41)))).bind fun y151 => (if y151.length < 5864062014805 then ((fuse_Of.f k x8 y140).bind fun bt160 => ((fuse_Chain.f k x8 y140).bind fun bt164 => ((fuse_Of.f k x8 (y151 ++ [(([(⟨0, 0, (⟨#[]⟩ : ByteArray)⟩ : S41)] : List (S41)))])).bind fun bt166 => (if bt160.2 = 5 then (if bt164.2 = 5 then (if bt166.2 = 1 then (if (bt160.1.length : Int) = 0 then (some ((bt166.1.length : Int) == 0)) else (some false)) else (some false)) else (some false)) else (some false))))) else (none))) else (none))))) else (none)))) else (none))) else (none))) else (none))) else (none)) else (none)))
def epitomelaw10_FuseFirst.f (k : Nat) (l0 : List (List (S41))) (a1 : Int) (a2 : Int) : Option (Bool) := (epitomelaw10_shown.f k).bind fun t101 => ((epitomeref04_Chain.f k l0 (wrap64 (Int.tmod a1 64))).bind fun t102 => (if (wrap64 ((t102.length : Int) + 1)) = 0 then (none) else (if 0 ≤ (Int.tmod (wrap64 (a2)) (wrap64 ((t102.length : Int) + 1))) then (if (Int.tmod (wrap64 (a2)) (wrap64 ((t102.length : Int) + 1))) ≤ (t102.length : Int) then ((fuse_Chain.f k (wrap64 (Int.tmod a1 64)) (t102.take ((Int.tmod (wrap64 (a2)) (wrap64 ((t102.length : Int) + 1))) : Int).toNat)).bind fun bt110 => (if t101 = true then (epitomelaw10_FuseFirst.j0 k (wrap64 (Int.tmod a1 64)) t102 (Int.tmod (wrap64 (a2)) (wrap64 ((t102.length : Int) + 1))) bt110.1 (bt110.2 != 0)) else (epitomelaw10_FuseFirst.j0 k (wrap64 (Int.tmod a1 64)) t102 (Int.tmod (wrap64 (a2)) (wrap64 ((t102.length : Int) + 1))) bt110.1 true))) else (none)) else (none))))
theorem epitomelaw10_FuseFirst.mono_l : ∀ k, (∀ y0 y1 y2 y3 y4, LeO (epitomelaw10_FuseFirst.j0 k y0 y1 y2 y3 y4) (epitomelaw10_FuseFirst.j0 (k + 1) y0 y1 y2 y3 y4))
  | 0 => fun _ _ _ _ _ r h => by simp [epitomelaw10_FuseFirst.j0] at h
  | k + 1 => by
    have ih0 := epitomelaw10_FuseFirst.mono_l k
    · intro y0 y1 y2 y3 y4
      unfold epitomelaw10_FuseFirst.j0
      repeat' first
      | (with_reducible exact ih0 _ _ _ _ _)
      | (with_reducible exact epitomelaw10_shown.mono _)
      | (with_reducible exact epitomeref04_Chain.mono _ _ _)
      | (with_reducible exact fuse_Chain.mono _ _ _)
      | (with_reducible exact fuse_Of.mono _ _ _)
      | (with_reducible exact LeO.refl _)
      | (with_reducible exact LeO.none _)
      | (with_reducible refine LeO.ite ?_ ?_)
      | (with_reducible refine LeO.bind ?_ (fun _ => ?_))
      | exact ih0 _ _ _ _ _
      | exact epitomelaw10_shown.mono _
      | exact epitomeref04_Chain.mono _ _ _
      | exact fuse_Chain.mono _ _ _
      | exact fuse_Of.mono _ _ _
      | exact LeO.none _
      | refine LeO.ite ?_ ?_
      | refine LeO.bind ?_ (fun _ => ?_)
def epitomelaw10_FuseFirst.T9 : Bool × List (List Nat × List Nat) := (true, [([], []), ([], []), ([1], [1]), ([2], [2]), ([0, 3], [0, 3]), ([], []), ([], []), ([5, 6], [5, 6]), ([4, 7, 4], [4, 7]), ([8, 8, 0, 1, 2, 3, 4, 5, 6, 7, 8], [0, 8])])
def epitomelaw10_FuseFirst.B9 : List Nat := [0, 0, 2, 6, 15, 0, 0, 96, 255, 511]
theorem epitomelaw10_FuseFirst.tab9 : rtab .any (opsOf Tryd.f7 9) = epitomelaw10_FuseFirst.T9 := by kernel_rfl
theorem epitomelaw10_FuseFirst.bits9 : waitsOk epitomelaw10_FuseFirst.T9.2 epitomelaw10_FuseFirst.B9 = true := by kernel_rfl
set_option maxHeartbeats 8000000 in
set_option maxRecDepth 100000 in
theorem epitomelaw10_FuseFirst.calls (k : Nat) (A0 : Option Addr) (c0 : Nat) (l0 : List (List (S41))) (a1 : Int) (a2 : Int) (r : Bool) (hr_ : Aside0 (r = true)) (w : World) (hG : Glob w) (hr0 : Kd.C (Kd.slice 41 k41) w A0 l0.length l0) (hc0 : l0.length ≤ c0) (h : epitomelaw10_FuseFirst.f k l0 a1 a2 = some r) :
    Calls Tryd.prog 7 #[.slice A0 l0.length c0, .int .u8 a1, .int .u8 a2] w fun e w' => e = .returned (.bool r) ∧ Below w.heap.size w w' := by
  have hu41 := Tryd.underlying41
  have HG := Aside0.mk hG
  clear hG
  have HR0 := Aside0.mk hr0
  have HC0 := Aside0.mk hc0
  clear hr0 hc0
  have HB := Aside0.mk (Below.refl w.heap.size w)
  have H : ((epitomelaw10_shown.f k).bind fun t101 => ((epitomeref04_Chain.f k l0 (wrap64 (Int.tmod a1 64))).bind fun t102 => (if (wrap64 ((t102.length : Int) + 1)) = 0 then (none) else (if 0 ≤ (Int.tmod (wrap64 (a2)) (wrap64 ((t102.length : Int) + 1))) then (if (Int.tmod (wrap64 (a2)) (wrap64 ((t102.length : Int) + 1))) ≤ (t102.length : Int) then ((fuse_Chain.f k (wrap64 (Int.tmod a1 64)) (t102.take ((Int.tmod (wrap64 (a2)) (wrap64 ((t102.length : Int) + 1))) : Int).toNat)).bind fun bt110 => (if t101 = true then (epitomelaw10_FuseFirst.j0 k (wrap64 (Int.tmod a1 64)) t102 (Int.tmod (wrap64 (a2)) (wrap64 ((t102.length : Int) + 1))) bt110.1 (bt110.2 != 0)) else (epitomelaw10_FuseFirst.j0 k (wrap64 (Int.tmod a1 64)) t102 (Int.tmod (wrap64 (a2)) (wrap64 ((t102.length : Int) + 1))) bt110.1 true))) else (none)) else (none))))) = some r := h
  clear h
  replace H := Option.bind_eq_some_iff.mp H
  obtain ⟨t101, A40, H⟩ := H
  replace H : ((epitomeref04_Chain.f k l0 (wrap64 (Int.tmod a1 64))).bind fun t102 => (if (wrap64 ((t102.length : Int) + 1)) = 0 then (none) else (if 0 ≤ (Int.tmod (wrap64 (a2)) (wrap64 ((t102.length : Int) + 1))) then (if (Int.tmod (wrap64 (a2)) (wrap64 ((t102.length : Int) + 1))) ≤ (t102.length : Int) then ((fuse_Chain.f k (wrap64 (Int.tmod a1 64)) (t102.take ((Int.tmod (wrap64 (a2)) (wrap64 ((t102.length : Int) + 1))) : Int).toNat)).bind fun bt110 => (if t101 = true then (epitomelaw10_FuseFirst.j0 k (wrap64 (Int.tmod a1 64)) t102 (Int.tmod (wrap64 (a2)) (wrap64 ((t102.length : Int) + 1))) bt110.1 (bt110.2 != 0)) else (epitomelaw10_FuseFirst.j0 k (wrap64 (Int.tmod a1 64)) t102 (Int.tmod (wrap64 (a2)) (wrap64 ((t102.length : Int) + 1))) bt110.1 true))) else (none)) else (none)))) = some r := H
  have A4 := Aside0.mk A40
  clear A40
  replace H := Option.bind_eq_some_iff.mp H
  obtain ⟨t102, A50, H⟩ := H
  replace H : (if (wrap64 ((t102.length : Int) + 1)) = 0 then (none) else (if 0 ≤ (Int.tmod (wrap64 (a2)) (wrap64 ((t102.length : Int) + 1))) then (if (Int.tmod (wrap64 (a2)) (wrap64 ((t102.length : Int) + 1))) ≤ (t102.length : Int) then ((fuse_Chain.f k (wrap64 (Int.tmod a1 64)) (t102.take ((Int.tmod (wrap64 (a2)) (wrap64 ((t102.length : Int) + 1))) : Int).toNat)).bind fun bt110 => (if t101 = true then (epitomelaw10_FuseFirst.j0 k (wrap64 (Int.tmod a1 64)) t102 (Int.tmod (wrap64 (a2)) (wrap64 ((t102.length : Int) + 1))) bt110.1 (bt110.2 != 0)) else (epitomelaw10_FuseFirst.j0 k (wrap64 (Int.tmod a1 64)) t102 (Int.tmod (wrap64 (a2)) (wrap64 ((t102.length : Int) + 1))) bt110.1 true))) else (none)) else (none))) = some r := H
  have A5 := Aside0.mk A50
  clear A50
  by_cases c6 : (wrap64 ((t102.length : Int) + 1)) = 0
  · rw [if_pos c6] at H
    exact absurd H (by simp)
  · rw [if_neg c6] at H
    have c6b0 : ((wrap64 ((t102.length : Int) + 1)) == 0) = false := beq_eq_false_iff_ne.mpr c6
    have c6b1 : ((wrap64 ((t102.length : Int) + 1)) != 0) = true := bne_iff_ne.mpr c6
    obtain ⟨ji7, hji7⟩ : ∃ j_ : Int, (Int.tmod (wrap64 (a2)) (wrap64 ((t102.length : Int) + 1))) = j_ := ⟨_, rfl⟩
    replace H : (if 0 ≤ (ji7) then (if (ji7) ≤ (t102.length : Int) then ((fuse_Chain.f k (wrap64 (Int.tmod a1 64)) (t102.take ((ji7) : Int).toNat)).bind fun bt110 => (if t101 = true then (epitomelaw10_FuseFirst.j0 k (wrap64 (Int.tmod a1 64)) t102 ji7 bt110.1 (bt110.2 != 0)) else (epitomelaw10_FuseFirst.j0 k (wrap64 (Int.tmod a1 64)) t102 ji7 bt110.1 true))) else (none)) else (none)) = some r := by first | (rw [hji7] at H; exact H) | (simp only [hji7] at H ⊢; exact H)
    (try rw [hji7] at A4)
    (try rw [hji7] at A5)
    by_cases c8 : 0 ≤ (ji7)
    · rw [if_pos c8] at H
      have c8b0 := eq_true c8
      have c8b1 : decide (0 ≤ (ji7)) = true := decide_eq_true c8
      clear c8
      by_cases c9 : (ji7) ≤ (t102.length : Int)
      · rw [if_pos c9] at H
        have c9b0 := eq_true c9
        have c9b1 : decide ((ji7) ≤ (t102.length : Int)) = true := decide_eq_true c9
        clear c9
        obtain ⟨y105, hy105⟩ : ∃ y_ : List (List (S41)), y_ = (t102.take ((ji7) : Int).toNat) := ⟨_, rfl⟩
        replace H : ((fuse_Chain.f k (wrap64 (Int.tmod a1 64)) y105).bind fun bt110 => (if t101 = true then (epitomelaw10_FuseFirst.j0 k (wrap64 (Int.tmod a1 64)) t102 ji7 bt110.1 (bt110.2 != 0)) else (epitomelaw10_FuseFirst.j0 k (wrap64 (Int.tmod a1 64)) t102 ji7 bt110.1 true))) = some r := by first | (rw [hy105]; with_reducible exact H) | (have H2_ := (Option.bind_some _ _).symm.trans H; rw [hy105]; with_reducible exact H2_) | (have H2_ := (Option.bind_some _ _).symm.trans H; with_reducible exact H2_) | with_reducible exact H | (rw [hy105]; exact H) | exact H
        have Ny105 := Aside0.mk hy105
        clear hy105
        replace H := Option.bind_eq_some_iff.mp H
        obtain ⟨⟨t110, t111⟩, A100, H⟩ := H
        replace H : (if t101 = true then (epitomelaw10_FuseFirst.j0 k (wrap64 (Int.tmod a1 64)) t102 ji7 t110 (t111 != 0)) else (epitomelaw10_FuseFirst.j0 k (wrap64 (Int.tmod a1 64)) t102 ji7 t110 true)) = some r := H
        have A10 := Aside0.mk A100
        clear A100
        have HC11 := Aside0.mk H
        clear H
        go_enter Tryd.func7, Tryd.ntmps7
        go_upto_region 6 with (first | ((with_reducible refine gate_callee (f := 14) rfl ?_); refine goesL_ (some 21) rfl rfl Tryd.func14 (by kernel_rfl) rfl #[] rfl (by (try simp only [List.map_toArray, List.map_cons, List.map_nil]); first | done | rfl | (simp only [List.length_drop, List.length_take]; rfl)) ?_; (with_reducible refine (epitomelaw10_shown.calls k  t101 _ ?side1 A4.out).mono ?_); (case side1 => first | (with_reducible exact HG.out) | exact Glob.below HG.out (by repeat (first | (with_reducible first | exact HB.out | apply below_alloc | apply pw_below_drewN | apply below_drew1) | exact HB.out)) | exact Glob.drawn HG.out (by repeat (first | exact Drawn0.refl _ | apply Drawn0.step))); rintro e w12 ⟨rfl, hb⟩; refine ⟨_, rfl, ?_⟩; have n0_ := Aside0.mk (below_step (by repeat (first | (with_reducible first | exact HB.out | apply below_alloc | apply pw_below_drewN | apply below_drew1) | exact HB.out)) hb); clear HB; have HB := n0_; clear n0_; (try clear hb); (try clear hb2); (try clear hk); (try clear hi)) | ((with_reducible refine gate_callee (f := 20) rfl ?_); refine goesL_ (some 27) rfl rfl Tryd.func20 (by kernel_rfl) rfl #[.slice A0 l0.length c0, .int .i64 (wrap64 (Int.tmod a1 64))] rfl (by (try simp only [List.map_toArray, List.map_cons, List.map_nil]); first | done | rfl | (simp only [List.length_drop, List.length_take]; rfl)) ?_; (with_reducible refine (epitomeref04_Chain.calls k _ _ l0 (wrap64 (Int.tmod a1 64)) t102 _ ?side1 ?side2 A5.out).mono ?_); (case side1 => repeat (first | exact (Kd.C_below HR0.out HB.out) | (with_reducible refine Kd.C_alloc ?_ _) | (with_reducible refine Kd.C_drewN ?_ _) | (with_reducible refine Kd.C_drew ?_))); (case side2 => exact HC0.out); rintro e w13 ⟨v103, rfl, ho0, hb⟩; refine ⟨_, rfl, ?_⟩; have n0_ := Aside0.mk (Kd.N_lower (Kd.N_mono (ok' := fun k_ => True) (Kd.S_N (Kd.S_bound ho0)) (fun k_ hk_ => trivial)) (below_size (by repeat (first | (with_reducible first | exact HB.out | apply below_alloc | apply pw_below_drewN | apply below_drew1) | exact HB.out)))); have n1_ := Aside0.mk (below_step (by repeat (first | (with_reducible first | exact HB.out | apply below_alloc | apply pw_below_drewN | apply below_drew1) | exact HB.out)) hb); clear HB; have HO104 := n0_; have HB := n1_; clear n0_ n1_; (try clear hb); (try clear hb2); (try clear hk); (try clear hi); (try clear ho0); obtain ⟨Ao14, co14, eo14⟩ := Kd.N_slice HO104.out; subst eo14; have q15 : ((ji7) : Int) ≤ ((t102.length : Int) : Int) := of_decide_eq_true (by first | (with_reducible assumption) | assumption); obtain ⟨i015, hi015, _, hsz15, _⟩ := info_parts info24; have hroom15 : t102.length ≤ co14 := (Kd.N_reads' HO104.out).2.1; have hC15 : Kd.F (Kd.slice 41 k41) _ _ Ao14 t102.length t102 := (Kd.V_at (base := w.heap.size) (Kd.N_V HO104.out)).2.2; have hcut15 := cut_to (P := Tryd.prog) 22 24 .i64 Tryd.underlying22 hi015 Ao14 t102.length co14 (ji7) (of_decide_eq_true (by first | (with_reducible assumption) | assumption)) q15 hroom15; have hr15 := Kd.F_take (m := ((ji7) : Int).toNat) hC15 (by omega); have hy15 : y105.length = ((ji7) : Int).toNat := (by rw [Ny105.out, List.length_take]; omega); rw [← Ny105.out] at hr15; rw [← hy15] at hcut15; have HO109 := Aside0.mk (show Kd.V (Kd.slice 41 k41) 24 _ w.heap.size _ (.slice Ao14 y105.length co14) y105 from Kd.V_mk (by omega) hr15); have HC109 := Aside0.mk (show y105.length ≤ co14 from by omega); clear hr15 hC15 hroom15 hi015 hsz15; have KY15 := Aside0.mk hy15; clear hy15; replace q15 := eq_true q15) | ((with_reducible refine gate_callee (f := 18) rfl ?_); refine goesL_ (some 39) rfl rfl Tryd.func18 (by kernel_rfl) rfl #[.int .i64 (wrap64 (Int.tmod a1 64)), .slice Ao14 y105.length co14] rfl (by (try simp only [List.map_toArray, List.map_cons, List.map_nil]); first | done | rfl | (simp only [List.length_drop, List.length_take]; rfl)) ?_; (with_reducible refine (fuse_Chain.calls k (wrap64 (Int.tmod a1 64)) _ _ y105 t110 t111 _ ?side1 ?side2 ?side3 A10.out).mono ?_); (case side1 => first | (with_reducible exact HG.out) | exact Glob.below HG.out (by repeat (first | (with_reducible first | exact HB.out | apply below_alloc | apply pw_below_drewN | apply below_drew1) | exact HB.out)) | exact Glob.drawn HG.out (by repeat (first | exact Drawn0.refl _ | apply Drawn0.step))); (case side2 => repeat (first | exact (Kd.V_reads' HO109.out).2.2 | (with_reducible refine Kd.C_alloc ?_ _) | (with_reducible refine Kd.C_drewN ?_ _) | (with_reducible refine Kd.C_drew ?_))); (case side3 => exact (Kd.V_reads' HO109.out).2.1); rintro e w16 ⟨rfl, hb⟩; refine ⟨_, rfl, ?_⟩; have n0_ := Aside0.mk (Kd.N_below (by (with_reducible repeat (first | apply Kd.N_alloc | apply Kd.N_drewN | apply Kd.N_drew)); exact HO104.out) hb); have n1_ := Aside0.mk (Kd.V_below (by (with_reducible repeat (first | apply Kd.V_alloc | apply Kd.V_drewN | apply Kd.V_drew)); exact HO109.out) hb); have n2_ := Aside0.mk (below_step (by repeat (first | (with_reducible first | exact HB.out | apply below_alloc | apply pw_below_drewN | apply below_drew1) | exact HB.out)) hb); clear HO104; clear HO109; clear HB; have HO104 := n0_; have HO109 := n1_; have HB := n2_; clear n0_ n1_ n2_; (try clear hb); (try clear hb2); (try clear hk); (try clear hi)))
        (try simp only [Act.put, List.setIfInBounds_toArray, List.set_cons_zero, List.set_cons_succ])
        go_cut [47] (fun v47 wc => ∃ (kq : Nat) (x47_10 : Bool), v47 = .bool x47_10 ∧ Aside0 (epitomelaw10_FuseFirst.j0 kq (wrap64 (Int.tmod a1 64)) t102 ji7 t110 x47_10 = some r) ∧ Aside0 (kq ≤ k) ∧ Aside0 (Kd.N (Kd.slice 41 k41) 24 wc w.heap.size (fun _ => True) (.slice Ao14 t102.length co14) t102) ∧ Aside0 (Below w.heap.size w wc))
        case first =>
          have H := HC11.out
          clear HC11
          by_cases c17 : t101 = true
          · subst c17
            have H1 : (epitomelaw10_FuseFirst.j0 k (wrap64 (Int.tmod a1 64)) t102 ji7 t110 (t111 != 0)) = some r := by rw [if_pos rfl] at H; exact H
            clear H
            have H := H1
            clear H1
            have H' := Aside0.mk H
            clear H
            go_wp2
            go_meet
            case rel => exact ⟨_, ((t111 != 0)), (by first | rfl | (simp; done) | (simp [*]; done)), H', ⟨by first | omega | exact Nat.le_refl _⟩, ⟨by (with_reducible repeat (first | apply Kd.N_alloc | apply Kd.N_drewN | apply Kd.N_drew)); exact HO104.out⟩, ⟨by repeat (first | (with_reducible first | exact HB.out | apply below_alloc | apply pw_below_drewN | apply below_drew1) | exact HB.out)⟩⟩
          · replace c17 := Bool.eq_false_iff.mpr c17
            subst c17
            have H1 : (epitomelaw10_FuseFirst.j0 k (wrap64 (Int.tmod a1 64)) t102 ji7 t110 true) = some r := by rw [if_neg (show ¬ (false = true) by decide)] at H; exact H
            clear H
            have H := H1
            clear H1
            have H' := Aside0.mk H
            clear H
            go_wp2
            go_meet
            case rel => exact ⟨_, (true), (by first | rfl | (simp; done) | (simp [*]; done)), H', ⟨by first | omega | exact Nat.le_refl _⟩, ⟨by (with_reducible repeat (first | apply Kd.N_alloc | apply Kd.N_drewN | apply Kd.N_drew)); exact HO104.out⟩, ⟨by repeat (first | (with_reducible first | exact HB.out | apply below_alloc | apply pw_below_drewN | apply below_drew1) | exact HB.out)⟩⟩
        case rest =>
          clear HC11
          try clear c1
          try clear q1
          try clear c2
          try clear p2
          try clear c6
          try clear c6b0
          try clear c6b1
          try clear p6
          try clear c7
          try clear c8
          try clear c8b0
          try clear c8b1
          try clear c9
          try clear c9b0
          try clear c9b1
          try clear c14
          try clear q15
          try clear c17
          try clear q15
          obtain ⟨kq, x47_10, rfl, HA, HJ10, HO_9, HB⟩ := hcut
          cases kq with
          | zero => exact absurd HA.out (by simp [epitomelaw10_FuseFirst.j0])
          | succ kj10 =>
            have H := HA.out
            clear HA
            simp only [epitomelaw10_FuseFirst.j0] at H
            by_cases c18 : x47_10 = true
            · subst c18
              have H1 : (some false) = some r := by rw [if_pos rfl] at H; exact H
              clear H
              have H := H1
              clear H1
              exact Bool.noConfusion ((Option.some.inj H).trans hr_.out)
            · replace c18 := Bool.eq_false_iff.mpr c18
              subst c18
              have H1 : ((some (([] : List (List (S41))) : List (List (S41)))).bind fun y112 => (if 0 ≤ ji7 then (if ji7 ≤ (t102.length : Int) then ((some (t102.take (ji7 : Int).toNat : List (List (S41)))).bind fun y115 => (if y112.length + y115.length < 5864062014805 then ((some (y112 ++ y115 : List (List (S41)))).bind fun y120 => (if y120.length < 5864062014805 then ((some (y120 ++ [(([(⟨1, wrap64 (t110 + 1), (⟨#[]⟩ : ByteArray)⟩ : S41)] : List (S41)))] : List (List (S41)))).bind fun y126 => (if y126.length < 5864062014805 then ((some (y126 ++ [(([(⟨0, 0, (⟨#[]⟩ : ByteArray)⟩ : S41)] : List (S41)))] : List (List (S41)))).bind fun y132 => ((some (t102.drop (ji7 : Int).toNat : List (List (S41)))).bind fun y135 => (if y132.length + y135.length < 5864062014805 then ((some (y132 ++ y135 : List (List (S41)))).bind fun y140 => ((some (([] : List (List (S41))) : List (List (S41)))).bind fun y143 => ((some (t102.take (ji7 : Int).toNat : List (List (S41)))).bind fun y146 => (if y143.length + y146.length < 5864062014805 then ((some (y143 ++ y146 : List (List (S41)))).bind fun y151 => (if y151.length < 5864062014805 then ((fuse_Of.f kj10 (wrap64 (Int.tmod a1 64)) y140).bind fun bt160 => ((fuse_Chain.f kj10 (wrap64 (Int.tmod a1 64)) y140).bind fun bt164 => ((fuse_Of.f kj10 (wrap64 (Int.tmod a1 64)) (y151 ++ [(([(⟨0, 0, (⟨#[]⟩ : ByteArray)⟩ : S41)] : List (S41)))])).bind fun bt166 => (if bt160.2 = 5 then (if bt164.2 = 5 then (if bt166.2 = 1 then (if (bt160.1.length : Int) = 0 then (some ((bt166.1.length : Int) == 0)) else (some false)) else (some false)) else (some false)) else (some false))))) else (none))) else (none))))) else (none)))) else (none))) else (none))) else (none))) else (none)) else (none))) = some r := by rw [if_neg (show ¬ (false = true) by decide)] at H; exact H
              clear H
              have H := H1
              clear H1
              obtain ⟨y112, hy112⟩ : ∃ y_ : List (List (S41)), y_ = (([] : List (List (S41)))) := ⟨_, rfl⟩
              replace H : (if 0 ≤ ji7 then (if ji7 ≤ (t102.length : Int) then ((some (t102.take (ji7 : Int).toNat : List (List (S41)))).bind fun y115 => (if y112.length + y115.length < 5864062014805 then ((some (y112 ++ y115 : List (List (S41)))).bind fun y120 => (if y120.length < 5864062014805 then ((some (y120 ++ [(([(⟨1, wrap64 (t110 + 1), (⟨#[]⟩ : ByteArray)⟩ : S41)] : List (S41)))] : List (List (S41)))).bind fun y126 => (if y126.length < 5864062014805 then ((some (y126 ++ [(([(⟨0, 0, (⟨#[]⟩ : ByteArray)⟩ : S41)] : List (S41)))] : List (List (S41)))).bind fun y132 => ((some (t102.drop (ji7 : Int).toNat : List (List (S41)))).bind fun y135 => (if y132.length + y135.length < 5864062014805 then ((some (y132 ++ y135 : List (List (S41)))).bind fun y140 => ((some (([] : List (List (S41))) : List (List (S41)))).bind fun y143 => ((some (t102.take (ji7 : Int).toNat : List (List (S41)))).bind fun y146 => (if y143.length + y146.length < 5864062014805 then ((some (y143 ++ y146 : List (List (S41)))).bind fun y151 => (if y151.length < 5864062014805 then ((fuse_Of.f kj10 (wrap64 (Int.tmod a1 64)) y140).bind fun bt160 => ((fuse_Chain.f kj10 (wrap64 (Int.tmod a1 64)) y140).bind fun bt164 => ((fuse_Of.f kj10 (wrap64 (Int.tmod a1 64)) (y151 ++ [(([(⟨0, 0, (⟨#[]⟩ : ByteArray)⟩ : S41)] : List (S41)))])).bind fun bt166 => (if bt160.2 = 5 then (if bt164.2 = 5 then (if bt166.2 = 1 then (if (bt160.1.length : Int) = 0 then (some ((bt166.1.length : Int) == 0)) else (some false)) else (some false)) else (some false)) else (some false))))) else (none))) else (none))))) else (none)))) else (none))) else (none))) else (none))) else (none)) else (none)) = some r := by first | (rw [hy112]; with_reducible exact H) | (have H2_ := (Option.bind_some _ _).symm.trans H; rw [hy112]; with_reducible exact H2_) | (have H2_ := (Option.bind_some _ _).symm.trans H; with_reducible exact H2_) | with_reducible exact H | (rw [hy112]; exact H) | exact H
              have Ny112 := Aside0.mk hy112
              clear hy112
              by_cases c19 : 0 ≤ ji7
              · rw [if_pos c19] at H
                have c19b0 := eq_true c19
                have c19b1 : decide (0 ≤ ji7) = true := decide_eq_true c19
                clear c19
                by_cases c20 : ji7 ≤ (t102.length : Int)
                · rw [if_pos c20] at H
                  have c20b0 := eq_true c20
                  have c20b1 : decide (ji7 ≤ (t102.length : Int)) = true := decide_eq_true c20
                  clear c20
                  obtain ⟨y115, hy115⟩ : ∃ y_ : List (List (S41)), y_ = (t102.take (ji7 : Int).toNat) := ⟨_, rfl⟩
                  replace H : (if y112.length + y115.length < 5864062014805 then ((some (y112 ++ y115 : List (List (S41)))).bind fun y120 => (if y120.length < 5864062014805 then ((some (y120 ++ [(([(⟨1, wrap64 (t110 + 1), (⟨#[]⟩ : ByteArray)⟩ : S41)] : List (S41)))] : List (List (S41)))).bind fun y126 => (if y126.length < 5864062014805 then ((some (y126 ++ [(([(⟨0, 0, (⟨#[]⟩ : ByteArray)⟩ : S41)] : List (S41)))] : List (List (S41)))).bind fun y132 => ((some (t102.drop (ji7 : Int).toNat : List (List (S41)))).bind fun y135 => (if y132.length + y135.length < 5864062014805 then ((some (y132 ++ y135 : List (List (S41)))).bind fun y140 => ((some (([] : List (List (S41))) : List (List (S41)))).bind fun y143 => ((some (t102.take (ji7 : Int).toNat : List (List (S41)))).bind fun y146 => (if y143.length + y146.length < 5864062014805 then ((some (y143 ++ y146 : List (List (S41)))).bind fun y151 => (if y151.length < 5864062014805 then ((fuse_Of.f kj10 (wrap64 (Int.tmod a1 64)) y140).bind fun bt160 => ((fuse_Chain.f kj10 (wrap64 (Int.tmod a1 64)) y140).bind fun bt164 => ((fuse_Of.f kj10 (wrap64 (Int.tmod a1 64)) (y151 ++ [(([(⟨0, 0, (⟨#[]⟩ : ByteArray)⟩ : S41)] : List (S41)))])).bind fun bt166 => (if bt160.2 = 5 then (if bt164.2 = 5 then (if bt166.2 = 1 then (if (bt160.1.length : Int) = 0 then (some ((bt166.1.length : Int) == 0)) else (some false)) else (some false)) else (some false)) else (some false))))) else (none))) else (none))))) else (none)))) else (none))) else (none))) else (none)) = some r := by first | (rw [hy115]; with_reducible exact H) | (have H2_ := (Option.bind_some _ _).symm.trans H; rw [hy115]; with_reducible exact H2_) | (have H2_ := (Option.bind_some _ _).symm.trans H; with_reducible exact H2_) | with_reducible exact H | (rw [hy115]; exact H) | exact H
                  have Ny115 := Aside0.mk hy115
                  obtain rfl : y105 = y115 := Ny105.out.trans Ny115.out.symm
                  clear hy115
                  by_cases c21 : y112.length + y105.length < 5864062014805
                  · rw [if_pos c21] at H
                    have LMc21 := Aside0.mk c21
                    clear c21
                    obtain ⟨y120, hy120⟩ : ∃ y_ : List (List (S41)), y_ = (y112 ++ y105) := ⟨_, rfl⟩
                    replace H : (if y120.length < 5864062014805 then ((some (y120 ++ [(([(⟨1, wrap64 (t110 + 1), (⟨#[]⟩ : ByteArray)⟩ : S41)] : List (S41)))] : List (List (S41)))).bind fun y126 => (if y126.length < 5864062014805 then ((some (y126 ++ [(([(⟨0, 0, (⟨#[]⟩ : ByteArray)⟩ : S41)] : List (S41)))] : List (List (S41)))).bind fun y132 => ((some (t102.drop (ji7 : Int).toNat : List (List (S41)))).bind fun y135 => (if y132.length + y135.length < 5864062014805 then ((some (y132 ++ y135 : List (List (S41)))).bind fun y140 => ((some (([] : List (List (S41))) : List (List (S41)))).bind fun y143 => ((some (t102.take (ji7 : Int).toNat : List (List (S41)))).bind fun y146 => (if y143.length + y146.length < 5864062014805 then ((some (y143 ++ y146 : List (List (S41)))).bind fun y151 => (if y151.length < 5864062014805 then ((fuse_Of.f kj10 (wrap64 (Int.tmod a1 64)) y140).bind fun bt160 => ((fuse_Chain.f kj10 (wrap64 (Int.tmod a1 64)) y140).bind fun bt164 => ((fuse_Of.f kj10 (wrap64 (Int.tmod a1 64)) (y151 ++ [(([(⟨0, 0, (⟨#[]⟩ : ByteArray)⟩ : S41)] : List (S41)))])).bind fun bt166 => (if bt160.2 = 5 then (if bt164.2 = 5 then (if bt166.2 = 1 then (if (bt160.1.length : Int) = 0 then (some ((bt166.1.length : Int) == 0)) else (some false)) else (some false)) else (some false)) else (some false))))) else (none))) else (none))))) else (none)))) else (none))) else (none)) = some r := by first | (rw [hy120]; with_reducible exact H) | (have H2_ := (Option.bind_some _ _).symm.trans H; rw [hy120]; with_reducible exact H2_) | (have H2_ := (Option.bind_some _ _).symm.trans H; with_reducible exact H2_) | with_reducible exact H | (rw [hy120]; exact H) | exact H
                    have Ny120 := Aside0.mk hy120
                    clear hy120
                    obtain ⟨y123, hy123⟩ : ∃ y_ : List (S41), y_ = (([(⟨1, wrap64 (t110 + 1), (⟨#[]⟩ : ByteArray)⟩ : S41)] : List (S41))) := ⟨_, rfl⟩
                    replace H : (if y120.length < 5864062014805 then ((some (y120 ++ [y123] : List (List (S41)))).bind fun y126 => (if y126.length < 5864062014805 then ((some (y126 ++ [(([(⟨0, 0, (⟨#[]⟩ : ByteArray)⟩ : S41)] : List (S41)))] : List (List (S41)))).bind fun y132 => ((some (t102.drop (ji7 : Int).toNat : List (List (S41)))).bind fun y135 => (if y132.length + y135.length < 5864062014805 then ((some (y132 ++ y135 : List (List (S41)))).bind fun y140 => ((some (([] : List (List (S41))) : List (List (S41)))).bind fun y143 => ((some (t102.take (ji7 : Int).toNat : List (List (S41)))).bind fun y146 => (if y143.length + y146.length < 5864062014805 then ((some (y143 ++ y146 : List (List (S41)))).bind fun y151 => (if y151.length < 5864062014805 then ((fuse_Of.f kj10 (wrap64 (Int.tmod a1 64)) y140).bind fun bt160 => ((fuse_Chain.f kj10 (wrap64 (Int.tmod a1 64)) y140).bind fun bt164 => ((fuse_Of.f kj10 (wrap64 (Int.tmod a1 64)) (y151 ++ [(([(⟨0, 0, (⟨#[]⟩ : ByteArray)⟩ : S41)] : List (S41)))])).bind fun bt166 => (if bt160.2 = 5 then (if bt164.2 = 5 then (if bt166.2 = 1 then (if (bt160.1.length : Int) = 0 then (some ((bt166.1.length : Int) == 0)) else (some false)) else (some false)) else (some false)) else (some false))))) else (none))) else (none))))) else (none)))) else (none))) else (none)) = some r := by first | (rw [hy123]; with_reducible exact H) | (have H2_ := (Option.bind_some _ _).symm.trans H; rw [hy123]; with_reducible exact H2_) | (have H2_ := (Option.bind_some _ _).symm.trans H; with_reducible exact H2_) | with_reducible exact H | (rw [hy123]; exact H) | exact H
                    have Ny123 := Aside0.mk hy123
                    clear hy123
                    by_cases c22 : y120.length < 5864062014805
                    · rw [if_pos c22] at H
                      have LMc22 := Aside0.mk c22
                      clear c22
                      obtain ⟨y126, hy126⟩ : ∃ y_ : List (List (S41)), y_ = (y120 ++ [y123]) := ⟨_, rfl⟩
                      replace H : (if y126.length < 5864062014805 then ((some (y126 ++ [(([(⟨0, 0, (⟨#[]⟩ : ByteArray)⟩ : S41)] : List (S41)))] : List (List (S41)))).bind fun y132 => ((some (t102.drop (ji7 : Int).toNat : List (List (S41)))).bind fun y135 => (if y132.length + y135.length < 5864062014805 then ((some (y132 ++ y135 : List (List (S41)))).bind fun y140 => ((some (([] : List (List (S41))) : List (List (S41)))).bind fun y143 => ((some (t102.take (ji7 : Int).toNat : List (List (S41)))).bind fun y146 => (if y143.length + y146.length < 5864062014805 then ((some (y143 ++ y146 : List (List (S41)))).bind fun y151 => (if y151.length < 5864062014805 then ((fuse_Of.f kj10 (wrap64 (Int.tmod a1 64)) y140).bind fun bt160 => ((fuse_Chain.f kj10 (wrap64 (Int.tmod a1 64)) y140).bind fun bt164 => ((fuse_Of.f kj10 (wrap64 (Int.tmod a1 64)) (y151 ++ [(([(⟨0, 0, (⟨#[]⟩ : ByteArray)⟩ : S41)] : List (S41)))])).bind fun bt166 => (if bt160.2 = 5 then (if bt164.2 = 5 then (if bt166.2 = 1 then (if (bt160.1.length : Int) = 0 then (some ((bt166.1.length : Int) == 0)) else (some false)) else (some false)) else (some false)) else (some false))))) else (none))) else (none))))) else (none)))) else (none)) = some r := by first | (rw [hy126]; with_reducible exact H) | (have H2_ := (Option.bind_some _ _).symm.trans H; rw [hy126]; with_reducible exact H2_) | (have H2_ := (Option.bind_some _ _).symm.trans H; with_reducible exact H2_) | with_reducible exact H | (rw [hy126]; exact H) | exact H
                      have Ny126 := Aside0.mk hy126
                      clear hy126
                      obtain ⟨y129, hy129⟩ : ∃ y_ : List (S41), y_ = (([(⟨0, 0, (⟨#[]⟩ : ByteArray)⟩ : S41)] : List (S41))) := ⟨_, rfl⟩
                      replace H : (if y126.length < 5864062014805 then ((some (y126 ++ [y129] : List (List (S41)))).bind fun y132 => ((some (t102.drop (ji7 : Int).toNat : List (List (S41)))).bind fun y135 => (if y132.length + y135.length < 5864062014805 then ((some (y132 ++ y135 : List (List (S41)))).bind fun y140 => ((some (([] : List (List (S41))) : List (List (S41)))).bind fun y143 => ((some (t102.take (ji7 : Int).toNat : List (List (S41)))).bind fun y146 => (if y143.length + y146.length < 5864062014805 then ((some (y143 ++ y146 : List (List (S41)))).bind fun y151 => (if y151.length < 5864062014805 then ((fuse_Of.f kj10 (wrap64 (Int.tmod a1 64)) y140).bind fun bt160 => ((fuse_Chain.f kj10 (wrap64 (Int.tmod a1 64)) y140).bind fun bt164 => ((fuse_Of.f kj10 (wrap64 (Int.tmod a1 64)) (y151 ++ [(([(⟨0, 0, (⟨#[]⟩ : ByteArray)⟩ : S41)] : List (S41)))])).bind fun bt166 => (if bt160.2 = 5 then (if bt164.2 = 5 then (if bt166.2 = 1 then (if (bt160.1.length : Int) = 0 then (some ((bt166.1.length : Int) == 0)) else (some false)) else (some false)) else (some false)) else (some false))))) else (none))) else (none))))) else (none)))) else (none)) = some r := by first | (rw [hy129]; with_reducible exact H) | (have H2_ := (Option.bind_some _ _).symm.trans H; rw [hy129]; with_reducible exact H2_) | (have H2_ := (Option.bind_some _ _).symm.trans H; with_reducible exact H2_) | with_reducible exact H | (rw [hy129]; exact H) | exact H
                      have Ny129 := Aside0.mk hy129
                      clear hy129
                      by_cases c23 : y126.length < 5864062014805
                      · rw [if_pos c23] at H
                        have LMc23 := Aside0.mk c23
                        clear c23
                        obtain ⟨y132, hy132⟩ : ∃ y_ : List (List (S41)), y_ = (y126 ++ [y129]) := ⟨_, rfl⟩
                        replace H : ((some (t102.drop (ji7 : Int).toNat : List (List (S41)))).bind fun y135 => (if y132.length + y135.length < 5864062014805 then ((some (y132 ++ y135 : List (List (S41)))).bind fun y140 => ((some (([] : List (List (S41))) : List (List (S41)))).bind fun y143 => ((some (t102.take (ji7 : Int).toNat : List (List (S41)))).bind fun y146 => (if y143.length + y146.length < 5864062014805 then ((some (y143 ++ y146 : List (List (S41)))).bind fun y151 => (if y151.length < 5864062014805 then ((fuse_Of.f kj10 (wrap64 (Int.tmod a1 64)) y140).bind fun bt160 => ((fuse_Chain.f kj10 (wrap64 (Int.tmod a1 64)) y140).bind fun bt164 => ((fuse_Of.f kj10 (wrap64 (Int.tmod a1 64)) (y151 ++ [(([(⟨0, 0, (⟨#[]⟩ : ByteArray)⟩ : S41)] : List (S41)))])).bind fun bt166 => (if bt160.2 = 5 then (if bt164.2 = 5 then (if bt166.2 = 1 then (if (bt160.1.length : Int) = 0 then (some ((bt166.1.length : Int) == 0)) else (some false)) else (some false)) else (some false)) else (some false))))) else (none))) else (none))))) else (none))) = some r := by first | (rw [hy132]; with_reducible exact H) | (have H2_ := (Option.bind_some _ _).symm.trans H; rw [hy132]; with_reducible exact H2_) | (have H2_ := (Option.bind_some _ _).symm.trans H; with_reducible exact H2_) | with_reducible exact H | (rw [hy132]; exact H) | exact H
                        have Ny132 := Aside0.mk hy132
                        clear hy132
                        have c24b0 := eq_true (of_decide_eq_true (by first | (with_reducible assumption) | assumption) : 0 ≤ ji7)
                        have c25b0 := eq_true (of_decide_eq_true (by first | (with_reducible assumption) | assumption) : ji7 ≤ (t102.length : Int))
                        obtain ⟨y135, hy135⟩ : ∃ y_ : List (List (S41)), y_ = (t102.drop (ji7 : Int).toNat) := ⟨_, rfl⟩
                        replace H : (if y132.length + y135.length < 5864062014805 then ((some (y132 ++ y135 : List (List (S41)))).bind fun y140 => ((some (([] : List (List (S41))) : List (List (S41)))).bind fun y143 => ((some (t102.take (ji7 : Int).toNat : List (List (S41)))).bind fun y146 => (if y143.length + y146.length < 5864062014805 then ((some (y143 ++ y146 : List (List (S41)))).bind fun y151 => (if y151.length < 5864062014805 then ((fuse_Of.f kj10 (wrap64 (Int.tmod a1 64)) y140).bind fun bt160 => ((fuse_Chain.f kj10 (wrap64 (Int.tmod a1 64)) y140).bind fun bt164 => ((fuse_Of.f kj10 (wrap64 (Int.tmod a1 64)) (y151 ++ [(([(⟨0, 0, (⟨#[]⟩ : ByteArray)⟩ : S41)] : List (S41)))])).bind fun bt166 => (if bt160.2 = 5 then (if bt164.2 = 5 then (if bt166.2 = 1 then (if (bt160.1.length : Int) = 0 then (some ((bt166.1.length : Int) == 0)) else (some false)) else (some false)) else (some false)) else (some false))))) else (none))) else (none))))) else (none)) = some r := by first | (rw [hy135]; with_reducible exact H) | (have H2_ := (Option.bind_some _ _).symm.trans H; rw [hy135]; with_reducible exact H2_) | (have H2_ := (Option.bind_some _ _).symm.trans H; with_reducible exact H2_) | with_reducible exact H | (rw [hy135]; exact H) | exact H
                        have Ny135 := Aside0.mk hy135
                        clear hy135
                        by_cases c26 : y132.length + y135.length < 5864062014805
                        · rw [if_pos c26] at H
                          have LMc26 := Aside0.mk c26
                          clear c26
                          obtain ⟨y140, hy140⟩ : ∃ y_ : List (List (S41)), y_ = (y132 ++ y135) := ⟨_, rfl⟩
                          replace H : ((some (([] : List (List (S41))) : List (List (S41)))).bind fun y143 => ((some (t102.take (ji7 : Int).toNat : List (List (S41)))).bind fun y146 => (if y143.length + y146.length < 5864062014805 then ((some (y143 ++ y146 : List (List (S41)))).bind fun y151 => (if y151.length < 5864062014805 then ((fuse_Of.f kj10 (wrap64 (Int.tmod a1 64)) y140).bind fun bt160 => ((fuse_Chain.f kj10 (wrap64 (Int.tmod a1 64)) y140).bind fun bt164 => ((fuse_Of.f kj10 (wrap64 (Int.tmod a1 64)) (y151 ++ [(([(⟨0, 0, (⟨#[]⟩ : ByteArray)⟩ : S41)] : List (S41)))])).bind fun bt166 => (if bt160.2 = 5 then (if bt164.2 = 5 then (if bt166.2 = 1 then (if (bt160.1.length : Int) = 0 then (some ((bt166.1.length : Int) == 0)) else (some false)) else (some false)) else (some false)) else (some false))))) else (none))) else (none)))) = some r := by first | (rw [hy140]; with_reducible exact H) | (have H2_ := (Option.bind_some _ _).symm.trans H; rw [hy140]; with_reducible exact H2_) | (have H2_ := (Option.bind_some _ _).symm.trans H; with_reducible exact H2_) | with_reducible exact H | (rw [hy140]; exact H) | exact H
                          have Ny140 := Aside0.mk hy140
                          clear hy140
                          obtain ⟨y143, hy143⟩ : ∃ y_ : List (List (S41)), y_ = (([] : List (List (S41)))) := ⟨_, rfl⟩
                          replace H : ((some (t102.take (ji7 : Int).toNat : List (List (S41)))).bind fun y146 => (if y143.length + y146.length < 5864062014805 then ((some (y143 ++ y146 : List (List (S41)))).bind fun y151 => (if y151.length < 5864062014805 then ((fuse_Of.f kj10 (wrap64 (Int.tmod a1 64)) y140).bind fun bt160 => ((fuse_Chain.f kj10 (wrap64 (Int.tmod a1 64)) y140).bind fun bt164 => ((fuse_Of.f kj10 (wrap64 (Int.tmod a1 64)) (y151 ++ [(([(⟨0, 0, (⟨#[]⟩ : ByteArray)⟩ : S41)] : List (S41)))])).bind fun bt166 => (if bt160.2 = 5 then (if bt164.2 = 5 then (if bt166.2 = 1 then (if (bt160.1.length : Int) = 0 then (some ((bt166.1.length : Int) == 0)) else (some false)) else (some false)) else (some false)) else (some false))))) else (none))) else (none))) = some r := by first | (rw [hy143]; with_reducible exact H) | (have H2_ := (Option.bind_some _ _).symm.trans H; rw [hy143]; with_reducible exact H2_) | (have H2_ := (Option.bind_some _ _).symm.trans H; with_reducible exact H2_) | with_reducible exact H | (rw [hy143]; exact H) | exact H
                          have Ny143 := Aside0.mk hy143
                          clear hy143
                          have c27b0 := eq_true (of_decide_eq_true (by first | (with_reducible assumption) | assumption) : 0 ≤ ji7)
                          have c28b0 := eq_true (of_decide_eq_true (by first | (with_reducible assumption) | assumption) : ji7 ≤ (t102.length : Int))
                          obtain ⟨y146, hy146⟩ : ∃ y_ : List (List (S41)), y_ = (t102.take (ji7 : Int).toNat) := ⟨_, rfl⟩
                          replace H : (if y143.length + y146.length < 5864062014805 then ((some (y143 ++ y146 : List (List (S41)))).bind fun y151 => (if y151.length < 5864062014805 then ((fuse_Of.f kj10 (wrap64 (Int.tmod a1 64)) y140).bind fun bt160 => ((fuse_Chain.f kj10 (wrap64 (Int.tmod a1 64)) y140).bind fun bt164 => ((fuse_Of.f kj10 (wrap64 (Int.tmod a1 64)) (y151 ++ [(([(⟨0, 0, (⟨#[]⟩ : ByteArray)⟩ : S41)] : List (S41)))])).bind fun bt166 => (if bt160.2 = 5 then (if bt164.2 = 5 then (if bt166.2 = 1 then (if (bt160.1.length : Int) = 0 then (some ((bt166.1.length : Int) == 0)) else (some false)) else (some false)) else (some false)) else (some false))))) else (none))) else (none)) = some r := by first | (rw [hy146]; with_reducible exact H) | (have H2_ := (Option.bind_some _ _).symm.trans H; rw [hy146]; with_reducible exact H2_) | (have H2_ := (Option.bind_some _ _).symm.trans H; with_reducible exact H2_) | with_reducible exact H | (rw [hy146]; exact H) | exact H
                          have Ny146 := Aside0.mk hy146
                          obtain rfl : y105 = y146 := Ny105.out.trans Ny146.out.symm
                          clear hy146
                          by_cases c29 : y143.length + y105.length < 5864062014805
                          · rw [if_pos c29] at H
                            have LMc29 := Aside0.mk c29
                            clear c29
                            obtain ⟨y151, hy151⟩ : ∃ y_ : List (List (S41)), y_ = (y143 ++ y105) := ⟨_, rfl⟩
                            replace H : (if y151.length < 5864062014805 then ((fuse_Of.f kj10 (wrap64 (Int.tmod a1 64)) y140).bind fun bt160 => ((fuse_Chain.f kj10 (wrap64 (Int.tmod a1 64)) y140).bind fun bt164 => ((fuse_Of.f kj10 (wrap64 (Int.tmod a1 64)) (y151 ++ [(([(⟨0, 0, (⟨#[]⟩ : ByteArray)⟩ : S41)] : List (S41)))])).bind fun bt166 => (if bt160.2 = 5 then (if bt164.2 = 5 then (if bt166.2 = 1 then (if (bt160.1.length : Int) = 0 then (some ((bt166.1.length : Int) == 0)) else (some false)) else (some false)) else (some false)) else (some false))))) else (none)) = some r := by first | (rw [hy151]; with_reducible exact H) | (have H2_ := (Option.bind_some _ _).symm.trans H; rw [hy151]; with_reducible exact H2_) | (have H2_ := (Option.bind_some _ _).symm.trans H; with_reducible exact H2_) | with_reducible exact H | (rw [hy151]; exact H) | exact H
                            have Ny151 := Aside0.mk hy151
                            clear hy151
                            obtain ⟨y154, hy154⟩ : ∃ y_ : List (S41), y_ = (([(⟨0, 0, (⟨#[]⟩ : ByteArray)⟩ : S41)] : List (S41))) := ⟨_, rfl⟩
                            replace H : (if y151.length < 5864062014805 then ((fuse_Of.f kj10 (wrap64 (Int.tmod a1 64)) y140).bind fun bt160 => ((fuse_Chain.f kj10 (wrap64 (Int.tmod a1 64)) y140).bind fun bt164 => ((fuse_Of.f kj10 (wrap64 (Int.tmod a1 64)) (y151 ++ [y154])).bind fun bt166 => (if bt160.2 = 5 then (if bt164.2 = 5 then (if bt166.2 = 1 then (if (bt160.1.length : Int) = 0 then (some ((bt166.1.length : Int) == 0)) else (some false)) else (some false)) else (some false)) else (some false))))) else (none)) = some r := by first | (rw [hy154]; with_reducible exact H) | (have H2_ := (Option.bind_some _ _).symm.trans H; rw [hy154]; with_reducible exact H2_) | (have H2_ := (Option.bind_some _ _).symm.trans H; with_reducible exact H2_) | with_reducible exact H | (rw [hy154]; exact H) | exact H
                            have Ny154 := Aside0.mk hy154
                            clear hy154
                            by_cases c30 : y151.length < 5864062014805
                            · rw [if_pos c30] at H
                              have LMc30 := Aside0.mk c30
                              clear c30
                              obtain ⟨y157, hy157⟩ : ∃ y_ : List (List (S41)), y_ = (y151 ++ [y154]) := ⟨_, rfl⟩
                              replace H : ((fuse_Of.f kj10 (wrap64 (Int.tmod a1 64)) y140).bind fun bt160 => ((fuse_Chain.f kj10 (wrap64 (Int.tmod a1 64)) y140).bind fun bt164 => ((fuse_Of.f kj10 (wrap64 (Int.tmod a1 64)) y157).bind fun bt166 => (if bt160.2 = 5 then (if bt164.2 = 5 then (if bt166.2 = 1 then (if (bt160.1.length : Int) = 0 then (some ((bt166.1.length : Int) == 0)) else (some false)) else (some false)) else (some false)) else (some false))))) = some r := by first | (rw [hy157]; with_reducible exact H) | (have H2_ := (Option.bind_some _ _).symm.trans H; rw [hy157]; with_reducible exact H2_) | (have H2_ := (Option.bind_some _ _).symm.trans H; with_reducible exact H2_) | with_reducible exact H | (rw [hy157]; exact H) | exact H
                              have Ny157 := Aside0.mk hy157
                              clear hy157
                              replace H := Option.bind_eq_some_iff.mp H
                              obtain ⟨⟨t160, t161⟩, A310, H⟩ := H
                              replace H : ((fuse_Chain.f kj10 (wrap64 (Int.tmod a1 64)) y140).bind fun bt164 => ((fuse_Of.f kj10 (wrap64 (Int.tmod a1 64)) y157).bind fun bt166 => (if t161 = 5 then (if bt164.2 = 5 then (if bt166.2 = 1 then (if (t160.length : Int) = 0 then (some ((bt166.1.length : Int) == 0)) else (some false)) else (some false)) else (some false)) else (some false)))) = some r := H
                              have A31 := Aside0.mk A310
                              clear A310
                              replace H := Option.bind_eq_some_iff.mp H
                              obtain ⟨⟨t164, t165⟩, A320, H⟩ := H
                              replace H : ((fuse_Of.f kj10 (wrap64 (Int.tmod a1 64)) y157).bind fun bt166 => (if t161 = 5 then (if t165 = 5 then (if bt166.2 = 1 then (if (t160.length : Int) = 0 then (some ((bt166.1.length : Int) == 0)) else (some false)) else (some false)) else (some false)) else (some false))) = some r := H
                              have A32 := Aside0.mk A320
                              clear A320
                              replace H := Option.bind_eq_some_iff.mp H
                              obtain ⟨⟨t166, t167⟩, A330, H⟩ := H
                              replace H : (if t161 = 5 then (if t165 = 5 then (if t167 = 1 then (if (t160.length : Int) = 0 then (some ((t166.length : Int) == 0)) else (some false)) else (some false)) else (some false)) else (some false)) = some r := H
                              have A33 := Aside0.mk A330
                              clear A330
                              by_cases c34 : t161 = 5
                              · rw [if_pos c34] at H
                                have c34b0 : (t161 == 5) = true := beq_iff_eq.mpr c34
                                have c34b1 : (t161 != 5) = false := bne_eq_false_iff_eq.mpr c34
                                clear c34
                                by_cases c35 : t165 = 5
                                · rw [if_pos c35] at H
                                  have c35b0 : (t165 == 5) = true := beq_iff_eq.mpr c35
                                  have c35b1 : (t165 != 5) = false := bne_eq_false_iff_eq.mpr c35
                                  clear c35
                                  by_cases c36 : t167 = 1
                                  · rw [if_pos c36] at H
                                    have c36b0 : (t167 == 1) = true := beq_iff_eq.mpr c36
                                    have c36b1 : (t167 != 1) = false := bne_eq_false_iff_eq.mpr c36
                                    clear c36
                                    by_cases c37 : (t160.length : Int) = 0
                                    · rw [if_pos c37] at H
                                      have c37b0 : ((t160.length : Int) == 0) = true := beq_iff_eq.mpr c37
                                      have c37b1 : ((t160.length : Int) != 0) = false := bne_eq_false_iff_eq.mpr c37
                                      clear c37
                                      obtain rfl := Option.some.inj H
                                      try go_wp2_with (first | ((with_reducible refine gate_dst (N := 48) rfl ?_); (try (refine gate_guard (by rfl) ?_; dsimp only)); refine Kd.N_lit (Kd.slice 41 k41) _ 24 ?hg (N' := 48) ?hd (xs := ([] : List (List (S41)))) (inner := []) (ok := (fun k_ => some k_ ≠ (.slice Ao14 t102.length co14 : Value).ownBlock)) (okp := (fun k_ => some k_ ≠ (.slice Ao14 t102.length co14 : Value).ownBlock)) ?hr ?hp (fun _ hk => hk) ((show ∀ k_, wc.heap.size ≤ k_ → (fun k_ => some k_ ≠ (.slice Ao14 t102.length co14 : Value).ownBlock) k_ from fun k_ hk => Kd.fresh' (Kd.N_lt (by (with_reducible repeat (first | apply Kd.N_alloc | apply Kd.N_drewN | apply Kd.N_drew)); exact HO_9.out)) k_ hk) _ (Nat.le_refl _)) (Below.refl _ _) (Nat.le_refl _) (by simp) ?_; (case hd => rfl); (case hg => rfl); (case hr => first | (go_simp; done) | (go_simp; rfl)); (case hp => exact (Reps.none _ _)); intro v113 w38 ho39 hb hg_ hnew_; clear hg_ hnew_; (first | rw [← Ny112.out] at ho39 | (simp only [Int.reduceToNat] at ho39; rw [← Ny112.out] at ho39)); have n0_ := Aside0.mk (Kd.N_elder' (by (with_reducible repeat (first | apply Kd.N_alloc | apply Kd.N_drewN | apply Kd.N_drew)); exact HO_9.out) (Kd.N_base ho39) hb); have n1_ := Aside0.mk (Kd.N_lower ho39 (below_size (by repeat (first | (with_reducible first | exact HB.out | apply below_alloc | apply pw_below_drewN | apply below_drew1) | exact HB.out)))); have n2_ := Aside0.mk (below_step (by repeat (first | (with_reducible first | exact HB.out | apply below_alloc | apply pw_below_drewN | apply below_drew1) | exact HB.out)) hb); clear HO_9; clear HB; have HO_9 := n0_; have HO114 := n1_; have HB := n2_; clear n0_ n1_ n2_; clear hb ho39; have q40 : (ji7 : Int) ≤ ((t102.length : Int) : Int) := of_decide_eq_true (by first | (with_reducible assumption) | assumption); obtain ⟨i040, hi040, _, hsz40, _⟩ := info_parts info24; have hroom40 : t102.length ≤ co14 := (Kd.N_reads' HO_9.out).2.1; have hC40 : Kd.F (Kd.slice 41 k41) _ _ Ao14 t102.length t102 := (Kd.V_at (base := w.heap.size) (Kd.N_V HO_9.out)).2.2; have hcut40 := cut_to (P := Tryd.prog) 22 24 .i64 Tryd.underlying22 hi040 Ao14 t102.length co14 ji7 (of_decide_eq_true (by first | (with_reducible assumption) | assumption)) q40 hroom40; have hr40 := Kd.F_take (m := (ji7 : Int).toNat) hC40 (by omega); have hy40 : y105.length = (ji7 : Int).toNat := (by rw [Ny115.out, List.length_take]; omega); rw [← Ny115.out] at hr40; rw [← hy40] at hcut40; have HO119 := Aside0.mk (show Kd.V (Kd.slice 41 k41) 24 _ w.heap.size _ (.slice Ao14 y105.length co14) y105 from Kd.V_mk (by omega) hr40); have HC119 := Aside0.mk (show y105.length ≤ co14 from by omega); clear hr40 hC40 hroom40 hi040 hsz40; have KY40 := Aside0.mk hy40; clear hy40; replace q40 := eq_true q40) | ((with_reducible refine gate_builtin (b := .append) (xs := #[.tmp 48, .tmp 51]) rfl ?_); (try (refine gate_guard (by rfl) ?_; dsimp only)); at_builtin; refine Kd.N_append_rows (Kd.slice 41 k41) (w0 := w) w.heap.size rfl (.tmp 48) (.tmp 51) 22 24 (.slice none 0 0) 24 rfl Tryd.underlying22 info24 rfl (by decide) (by omega) v113 y112 y105 _ _ _ (fun _ => True) (fun k_ => ((fun _ => True)) k_ ∧ some k_ ≠ (v113 : Value).ownBlock) rfl rfl ?aO ?aR (fun _ hk => hk) ?aF ?aB ?aS ?aL ?_; (case aR => exact (by skip; exact Kd.V_F (Kd.V_mono (ok' := (fun k_ => ((fun _ => True)) k_ ∧ some k_ ≠ (v113 : Value).ownBlock)) (HO119.out) (fun k_ hk => ⟨trivial, hk.2⟩)))); (case aB => exact (by repeat (first | (with_reducible first | exact HB.out | apply below_alloc | apply pw_below_drewN | apply below_drew1) | exact HB.out))); (case aF => exact (fun _ _ => trivial)); (case aO => exact (by (with_reducible repeat (first | apply Kd.N_alloc | apply Kd.N_drewN | apply Kd.N_drew)); exact Kd.N_mono HO114.out (fun _ hk => trivial))); (case aS => exact (below_size (by repeat (first | (with_reducible first | exact HB.out | apply below_alloc | apply pw_below_drewN | apply below_drew1) | exact HB.out)))); (case aL => have := LMc21.out; omega); intro v121 w41 ho hb hg hat; rw [← Ny120.out] at ho; have n0_ := Aside0.mk (Kd.N_afterv (ok := (fun _ => True)) (by (with_reducible repeat (first | apply Kd.N_alloc | apply Kd.N_drewN | apply Kd.N_drew)); exact HO_9.out) hg hat); have n1_ := Aside0.mk (Kd.V_afterv (ok := (fun _ => True)) (by (with_reducible repeat (first | apply Kd.V_alloc | apply Kd.V_drewN | apply Kd.V_drew)); exact HO119.out) hg hat); have n2_ := Aside0.mk (hb); have n3_ := Aside0.mk (ho); clear HO_9; clear HO119; clear HB; clear HO114; have HO_9 := n0_; have HO119 := n1_; have HB := n2_; have HO122 := n3_; clear n0_ n1_ n2_ n3_; clear ho hb hg hat) | ((with_reducible refine gate_dst (N := 56) rfl ?_); (try (refine gate_guard (by rfl) ?_; dsimp only)); refine Kd.R_lit k41 _ 41 ?hg (N := 56) ?hd (xs := ([(⟨1, wrap64 (t110 + 1), (⟨#[]⟩ : ByteArray)⟩ : S41)] : List (S41))) (inner := [.int .i64 1, .int .i64 (wrap64 (t110 + 1)), .string (⟨#[]⟩ : ByteArray)]) (ok := fun _ => True) (okp := fun _ => True) ?hr ?hp (fun _ hk => hk) trivial (Below.refl _ _) (Nat.le_refl _) (by simp) ?_; (case hd => rfl); (case hg => rfl); (case hr => first | (go_simp; done) | (go_simp; rfl)); (case hp => exact (Reps.c3 (show Kd.M k41 _ _ _ (⟨1, wrap64 (t110 + 1), (⟨#[]⟩ : ByteArray)⟩ : S41) [.int .i64 1, .int .i64 (wrap64 (t110 + 1)), .string (⟨#[]⟩ : ByteArray)] from (k41_mkM _ _ _ (⟨1, wrap64 (t110 + 1), (⟨#[]⟩ : ByteArray)⟩ : S41) )) (Reps.none _ _))); intro v124 w42 ho43 hb hg_ hnew_; clear hg_ hnew_; (first | rw [← Ny123.out] at ho43 | (simp only [Int.reduceToNat] at ho43; rw [← Ny123.out] at ho43)); have n0_ := Aside0.mk (Kd.N_elder' (by (with_reducible repeat (first | apply Kd.N_alloc | apply Kd.N_drewN | apply Kd.N_drew)); exact HO_9.out) (Kd.R_base ho43) hb); have n1_ := Aside0.mk (Kd.V_elder' (by (with_reducible repeat (first | apply Kd.V_alloc | apply Kd.V_drewN | apply Kd.V_drew)); exact HO119.out) (Kd.R_base ho43) hb); have n2_ := Aside0.mk (Kd.N_elder' (by (with_reducible repeat (first | apply Kd.N_alloc | apply Kd.N_drewN | apply Kd.N_drew)); exact HO122.out) (Kd.R_base ho43) hb); have n3_ := Aside0.mk (Kd.R_lower ho43 (below_size (by repeat (first | (with_reducible first | exact HB.out | apply below_alloc | apply pw_below_drewN | apply below_drew1) | exact HB.out)))); have n4_ := Aside0.mk (below_step (by repeat (first | (with_reducible first | exact HB.out | apply below_alloc | apply pw_below_drewN | apply below_drew1) | exact HB.out)) hb); clear HO_9; clear HO119; clear HO122; clear HB; have HO_9 := n0_; have HO119 := n1_; have HO122 := n2_; have HO125 := n3_; have HB := n4_; clear n0_ n1_ n2_ n3_ n4_; clear hb ho43; obtain ⟨Ao45, co45, eo45⟩ := Kd.R_slice HO125.out; subst eo45) | ((with_reducible refine gate_builtin (b := .append) (xs := #[.tmp 52, .tmp 57]) rfl ?_); (try (refine gate_guard (by rfl) ?_; dsimp only)); at_builtin; refine Kd.N_append (Kd.slice 41 k41) (w0 := w) w.heap.size rfl (.tmp 52) (.tmp 57) 22 24 (.slice none 0 0) 24 rfl Tryd.underlying22 info24 rfl (by decide) (by omega) v121 y120 y123 [.slice Ao45 y123.length co45] (fun _ => True) (fun k_ => ((fun _ => True)) k_ ∧ some k_ ≠ (v121 : Value).ownBlock) rfl rfl ?aP (fun _ hk => hk) ?aF ?aO ?aB ?aS ?aL ?_; (case aP => exact (Kd.FK_slice_mk (Kd.R_reads' (Kd.R_mono (ok' := (fun k_ => ((fun _ => True)) k_ ∧ some k_ ≠ (v121 : Value).ownBlock)) (Kd.R_apart' (HO125.out) (Kd.N_typed HO122.out) (by decide)) (fun k_ hk => ⟨trivial, hk.2⟩))).2.1 (Kd.R_F (Kd.R_mono (ok' := (fun k_ => ((fun _ => True)) k_ ∧ some k_ ≠ (v121 : Value).ownBlock)) (Kd.R_apart' (HO125.out) (Kd.N_typed HO122.out) (by decide)) (fun k_ hk => ⟨trivial, hk.2⟩))))); (case aB => exact (by repeat (first | (with_reducible first | exact HB.out | apply below_alloc | apply pw_below_drewN | apply below_drew1) | exact HB.out))); (case aF => exact (fun _ _ => trivial)); (case aO => exact (by (with_reducible repeat (first | apply Kd.N_alloc | apply Kd.N_drewN | apply Kd.N_drew)); exact Kd.N_mono HO122.out (fun _ hk => trivial))); (case aS => exact (below_size (by repeat (first | (with_reducible first | exact HB.out | apply below_alloc | apply pw_below_drewN | apply below_drew1) | exact HB.out)))); (case aL => have := LMc22.out; omega); intro v127 w44 ho hb hg hat; rw [← Ny126.out] at ho; have n0_ := Aside0.mk (Kd.N_afterv (ok := (fun k_ => some k_ ≠ (.slice Ao45 y123.length co45 : Value).ownBlock)) (by (with_reducible repeat (first | apply Kd.N_alloc | apply Kd.N_drewN | apply Kd.N_drew)); exact Kd.N_mono HO_9.out (fun _ hk => ⟨hk.2, hk.1.2⟩)) hg hat); have n1_ := Aside0.mk (Kd.V_afterv (ok := (fun k_ => some k_ ≠ (.slice Ao45 y123.length co45 : Value).ownBlock)) (by (with_reducible repeat (first | apply Kd.V_alloc | apply Kd.V_drewN | apply Kd.V_drew)); exact Kd.V_mono HO119.out (fun _ hk => ⟨hk.2, hk.1.2⟩)) hg hat); have n2_ := Aside0.mk (hb); have n3_ := Aside0.mk (ho); clear HO_9; clear HO119; clear HB; clear HO122; clear HO125; have HO_9 := n0_; have HO119 := n1_; have HB := n2_; have HO128 := n3_; clear n0_ n1_ n2_ n3_; clear ho hb hg hat))
                                      have n0_ := Aside0.mk (Kd.N_drew HO_9.out)
                                      have n1_ := Aside0.mk (Kd.V_drew HO119.out)
                                      have n2_ := Aside0.mk (Kd.N_drew HO128.out)
                                      have n3_ := Aside0.mk (below_drew1 HB.out)
                                      clear HO_9
                                      clear HO119
                                      clear HO128
                                      clear HB
                                      have HO_9 := n0_
                                      have HO119 := n1_
                                      have HO128 := n2_
                                      have HB := n3_
                                      clear n0_ n1_ n2_ n3_
                                      have q47 : (ji7 : Int) ≤ ((t102.length : Int) : Int) := of_decide_eq_true (by first | (with_reducible assumption) | assumption)
                                      obtain ⟨i047, hi047, _, hsz47, _⟩ := info_parts info24
                                      have hroom47 : t102.length ≤ co14 := (Kd.N_reads' HO_9.out).2.1
                                      have hC47 : Kd.F (Kd.slice 41 k41) _ _ Ao14 t102.length t102 := (Kd.V_at (base := w.heap.size) (Kd.N_V HO_9.out)).2.2
                                      have q047 : (0 : Int) ≤ (ji7 : Int) := of_decide_eq_true (by first | (with_reducible assumption) | assumption)
                                      have hcut47 := cut_from (P := Tryd.prog) 22 24 .i64 Tryd.underlying22 hi047 1 hsz47 Ao14 t102.length co14 ji7 q047 q47
                                      have hr47 := Kd.F_cut (m := (ji7 : Int).toNat) (c := co14) hC47 (by omega) hroom47
                                      obtain ⟨A47, hA47⟩ : ∃ A1, A1 = (if co14 = (ji7 : Int).toNat then Ao14 else (Ao14 : Option Addr).map (·.add ((ji7 : Int).toNat * 1))) := ⟨_, rfl⟩
                                      obtain ⟨c47, hc47⟩ : ∃ c1, c1 = co14 - (ji7 : Int).toNat := ⟨_, rfl⟩
                                      have hy47 : y135.length = t102.length - (ji7 : Int).toNat := (by rw [Ny135.out, List.length_drop] <;> omega)
                                      rw [show (t102).drop (ji7 : Int).toNat = y135 from Ny135.out.symm] at hr47
                                      replace hr47 : Kd.F (Kd.slice 41 k41) _ _ A47 y135.length y135 := (by rw [hA47]; exact hr47)
                                      rw [← hy47, ← hA47, ← hc47] at hcut47
                                      have HO139 := Aside0.mk (show Kd.V (Kd.slice 41 k41) 24 _ w.heap.size _ (.slice A47 y135.length c47) y135 from Kd.V_mk (by rw [hy47, hc47]; exact Nat.sub_le_sub_right hroom47 _) hr47)
                                      have HC139 := Aside0.mk (show y135.length ≤ c47 from by rw [hy47, hc47]; exact Nat.sub_le_sub_right hroom47 _)
                                      clear hr47 hC47 hroom47 hi047 hsz47 hc47
                                      have KY47 := Aside0.mk hy47
                                      have KA47 := Aside0.mk hA47
                                      clear hy47 hA47
                                      replace q47 := eq_true q47
                                      refine start_ (n := 10) (S := fun w' => True) (ds := []) #[false, false, false, false, false, false, false, false, false, false] (by kernel_rfl) rfl rfl trivial (fun hHeld => ?_); refine with_tabW epitomelaw10_FuseFirst.tab9 epitomelaw10_FuseFirst.bits9 (fun HT_ HW_ => ?_)
                                      generalize w44.drew = w46 at HO_9 HO119 HO128 HB HO139 hHeld ⊢
                                      refine pure_ (i := 0) (N := some 59) (v := ?_) (a' := ?_) #[true, false, false, false, false, false, false, false, false, false] rfl rfl (any_of HT_.out (by kernel_rfl)) (fun _ _ _ h => h) (Or.inl ⟨by rfl, ?_⟩) ?_ ?_
                                      rotate_left
                                      · intro w'
                                        go_simp
                                        with_reducible rfl
                                      rotate_left
                                      · simp only [Act.put, List.setIfInBounds_toArray, List.set_cons_zero, List.set_cons_succ, i64_w, i32_w]
                                        rfl
                                      refine pure_ (i := 1) (N := some 60) (v := ?_) (a' := ?_) #[true, true, false, false, false, false, false, false, false, false] rfl rfl (any_of HT_.out (by kernel_rfl)) (fun _ _ _ h => h) (Or.inl ⟨by rfl, ?_⟩) ?_ ?_
                                      rotate_left
                                      · intro w'
                                        go_simp
                                        with_reducible rfl
                                      rotate_left
                                      · simp only [Act.put, List.setIfInBounds_toArray, List.set_cons_zero, List.set_cons_succ, i64_w, i32_w]
                                        rfl
                                      refine pure_ (i := 5) (N := some 64) (v := ?_) (a' := ?_) #[true, true, false, false, false, true, false, false, false, false] rfl rfl (any_of HT_.out (by kernel_rfl)) (fun _ _ _ h => h) (Or.inl ⟨by rfl, ?_⟩) ?_ ?_
                                      rotate_left
                                      · intro w'
                                        go_simp
                                        with_reducible rfl
                                      rotate_left
                                      · simp only [Act.put, List.setIfInBounds_toArray, List.set_cons_zero, List.set_cons_succ, i64_w, i32_w]
                                        rfl
                                      refine pure_ (i := 6) (N := some 65) (v := ?_) (a' := ?_) #[true, true, false, false, false, true, true, false, false, false] rfl rfl (any_of HT_.out (by kernel_rfl)) (fun _ _ _ h => h) (Or.inl ⟨by rfl, ?_⟩) ?_ ?_
                                      rotate_left
                                      · intro w'
                                        go_simp
                                        with_reducible rfl
                                      rotate_left
                                      · simp only [Act.put, List.setIfInBounds_toArray, List.set_cons_zero, List.set_cons_succ, i64_w, i32_w]
                                        rfl
                                      refine pure_ (i := 7) (N := some 66) (v := ?_) (a' := ?_) #[true, true, false, false, false, true, true, true, false, false] rfl rfl (any_of HT_.out (by kernel_rfl)) (fun _ _ _ h => h) (Or.inl ⟨by rfl, ?_⟩) ?_ ?_
                                      rotate_left
                                      · intro w'
                                        go_simp
                                        with_reducible rfl
                                      rotate_left
                                      · simp only [Act.put, List.setIfInBounds_toArray, List.set_cons_zero, List.set_cons_succ, i64_w, i32_w]
                                        rfl
                                      refine one_ (i := 2) (N := some 61) #[true, true, true, false, false, true, true, true, false, false] rfl rfl (one_of HT_.out (by kernel_rfl)) (by decide) (fun K hK => ?_)
                                      refine Kd.R_lit_step k41 _ 41 ?hg (N := 61) ?hd (xs := ([(⟨0, 0, (⟨#[]⟩ : ByteArray)⟩ : S41)] : List (S41))) (inner := [.int .i64 0, .int .i64 0, .string (⟨#[]⟩ : ByteArray)]) (ok := fun _ => True) (okp := fun _ => True) ?hr ?hp (fun _ hk => hk) trivial (Below.refl _ _) (Nat.le_refl _) (by simp) ?_; (case hd => rfl); (case hg => rfl); (case hr => first | (go_simp; done) | (go_simp; rfl)); (case hp => exact (Reps.c3 (show Kd.M k41 _ _ _ (⟨0, 0, (⟨#[]⟩ : ByteArray)⟩ : S41) [.int .i64 0, .int .i64 0, .string (⟨#[]⟩ : ByteArray)] from (k41_mkM _ _ _ (⟨0, 0, (⟨#[]⟩ : ByteArray)⟩ : S41) )) (Reps.none _ _)))
                                      intro v130 w48 ho49 hb hg_ hnew_
                                      clear hg_ hnew_
                                      (first | rw [← Ny129.out] at ho49 | (simp only [Int.reduceToNat] at ho49; rw [← Ny129.out] at ho49))
                                      have n0_ := Aside0.mk (Kd.N_elder' (by (with_reducible repeat (first | apply Kd.N_alloc | apply Kd.N_drewN | apply Kd.N_drew)); exact HO_9.out) (Kd.R_base ho49) hb)
                                      have n1_ := Aside0.mk (Kd.V_elder' (by (with_reducible repeat (first | apply Kd.V_alloc | apply Kd.V_drewN | apply Kd.V_drew)); exact HO119.out) (Kd.R_base ho49) hb)
                                      have n2_ := Aside0.mk (Kd.N_elder' (by (with_reducible repeat (first | apply Kd.N_alloc | apply Kd.N_drewN | apply Kd.N_drew)); exact HO128.out) (Kd.R_base ho49) hb)
                                      have n3_ := Aside0.mk (Kd.V_elder' (by (with_reducible repeat (first | apply Kd.V_alloc | apply Kd.V_drewN | apply Kd.V_drew)); exact HO139.out) (Kd.R_base ho49) hb)
                                      have n4_ := Aside0.mk (Kd.R_lower ho49 (below_size (by repeat (first | (with_reducible first | exact HB.out | apply below_alloc | apply pw_below_drewN | apply below_drew1) | exact HB.out))))
                                      have n5_ := Aside0.mk (below_step (by repeat (first | (with_reducible first | exact HB.out | apply below_alloc | apply pw_below_drewN | apply below_drew1) | exact HB.out)) hb)
                                      clear HO_9
                                      clear HO119
                                      clear HO128
                                      clear HO139
                                      clear HB
                                      have HO_9 := n0_
                                      have HO119 := n1_
                                      have HO128 := n2_
                                      have HO139 := n3_
                                      have HO131 := n4_
                                      have HB := n5_
                                      clear n0_ n1_ n2_ n3_ n4_ n5_
                                      clear hb ho49
                                      obtain ⟨Ao51, co51, eo51⟩ := Kd.R_slice HO131.out
                                      (first | subst eo51 | (injection eo51 with f1_ f2_ f3_; have f4_ := f1_.symm; have f5_ := f3_.symm; clear f1_ f2_ f3_; subst f4_; subst f5_))
                                      refine hK.out _ _ trivial (fun hHeld => ?_)
                                      clear hK K
                                      refine norm_ (a' := ?_) ?_ ?_
                                      rotate_left
                                      · show Act.put _ (some 61) _ = _
                                        simp only [Act.put, List.setIfInBounds_toArray, List.set_cons_zero, List.set_cons_succ, i64_w, i32_w]
                                        rfl
                                      refine one_ (i := 3) (N := some 62) #[true, true, true, true, false, true, true, true, false, false] rfl rfl (one_of HT_.out (by kernel_rfl)) (by decide) (fun K hK => ?_)
                                      refine value_ (w1 := ?_) (v := ?_) (by rfl) rfl ?_ ?_
                                      rotate_left 2
                                      · go_simp
                                        constructor
                                        · rfl
                                        · rfl
                                      refine hK.out _ _ trivial (fun hHeld => ?_)
                                      clear hK K
                                      refine norm_ (a' := ?_) ?_ ?_
                                      rotate_left
                                      · show Act.put _ (some 62) _ = _
                                        simp only [Act.put, List.setIfInBounds_toArray, List.set_cons_zero, List.set_cons_succ, i64_w, i32_w]
                                        rfl
                                      refine one_ (i := 4) (N := some 63) #[true, true, true, true, true, true, true, true, false, false] rfl rfl (one_of HT_.out (by kernel_rfl)) (by decide) (fun K hK => ?_)
                                      refine Kd.N_append_step (Kd.slice 41 k41) (w0 := w) w.heap.size (by rfl) (.tmp 59) (.tmp 62) 22 24 (.slice none 0 0) 24 rfl Tryd.underlying22 info24 rfl (by decide) (by omega) v127 y126 y129 [.slice Ao51 y129.length co51] (fun _ => True) (fun k_ => ((fun _ => True)) k_ ∧ some k_ ≠ (v127 : Value).ownBlock) rfl rfl ?aP (fun _ hk => hk) ?aF ?aO ?aB ?aS ?aL ?_
                                      (case aP => exact (Kd.FK_slice_mk (Kd.R_reads' (Kd.R_mono (ok' := (fun k_ => ((fun _ => True)) k_ ∧ some k_ ≠ (v127 : Value).ownBlock)) (Kd.R_apart' (HO131.out) (Kd.N_typed HO128.out) (by decide)) (fun k_ hk => ⟨trivial, hk.2⟩))).2.1 (Kd.R_F (Kd.R_mono (ok' := (fun k_ => ((fun _ => True)) k_ ∧ some k_ ≠ (v127 : Value).ownBlock)) (Kd.R_apart' (HO131.out) (Kd.N_typed HO128.out) (by decide)) (fun k_ hk => ⟨trivial, hk.2⟩)))))
                                      (case aB => exact (by repeat (first | (with_reducible first | exact HB.out | apply below_alloc | apply pw_below_drewN | apply below_drew1) | exact HB.out)))
                                      (case aF => exact (fun _ _ => trivial))
                                      (case aO => exact (by (with_reducible repeat (first | apply Kd.N_alloc | apply Kd.N_drewN | apply Kd.N_drew)); exact Kd.N_mono HO128.out (fun _ hk => trivial)))
                                      (case aS => exact (below_size (by repeat (first | (with_reducible first | exact HB.out | apply below_alloc | apply pw_below_drewN | apply below_drew1) | exact HB.out))))
                                      (case aL => have := LMc23.out; omega)
                                      intro v133 w50 ho hb hg hat
                                      rw [← Ny132.out] at ho
                                      have n0_ := Aside0.mk (Kd.N_afterv (ok := (fun k_ => some k_ ≠ (.slice Ao51 y129.length co51 : Value).ownBlock)) (by (with_reducible repeat (first | apply Kd.N_alloc | apply Kd.N_drewN | apply Kd.N_drew)); exact Kd.N_mono HO_9.out (fun _ hk => ⟨hk.2, hk.1.2⟩)) hg hat)
                                      have n1_ := Aside0.mk (Kd.V_afterv (ok := (fun k_ => some k_ ≠ (.slice Ao51 y129.length co51 : Value).ownBlock)) (by (with_reducible repeat (first | apply Kd.V_alloc | apply Kd.V_drewN | apply Kd.V_drew)); exact Kd.V_mono HO119.out (fun _ hk => ⟨hk.2, hk.1.2⟩)) hg hat)
                                      have n2_ := Aside0.mk (Kd.V_afterv (ok := (fun k_ => some k_ ≠ (.slice Ao51 y129.length co51 : Value).ownBlock)) (by (with_reducible repeat (first | apply Kd.V_alloc | apply Kd.V_drewN | apply Kd.V_drew)); exact Kd.V_mono HO139.out (fun _ hk => ⟨hk.2, hk.1.2⟩)) hg hat)
                                      have n3_ := Aside0.mk (hb)
                                      have n4_ := Aside0.mk (ho)
                                      clear HO_9
                                      clear HO119
                                      clear HO139
                                      clear HB
                                      clear HO128
                                      clear HO131
                                      have HO_9 := n0_
                                      have HO119 := n1_
                                      have HO139 := n2_
                                      have HB := n3_
                                      have HO134 := n4_
                                      clear n0_ n1_ n2_ n3_ n4_
                                      clear ho hb hg hat
                                      refine hK.out _ _ trivial (fun hHeld => ?_)
                                      clear hK K
                                      refine norm_ (a' := ?_) ?_ ?_
                                      rotate_left
                                      · show Act.put _ (some 63) _ = _
                                        simp only [Act.put, List.setIfInBounds_toArray, List.set_cons_zero, List.set_cons_succ, i64_w, i32_w]
                                        rfl
                                      refine one_ (i := 8) (N := some 67) #[true, true, true, true, true, true, true, true, true, false] rfl rfl (one_of HT_.out (by kernel_rfl)) (by decide) (fun K hK => ?_)
                                      refine Kd.N_append_rows_step (Kd.slice 41 k41) (w0 := w) w.heap.size (by rfl) (.tmp 63) (.tmp 66) 22 24 (.slice none 0 0) 24 rfl Tryd.underlying22 info24 rfl (by decide) (by omega) v133 y132 y135 _ _ _ (fun _ => True) (fun k_ => ((fun _ => True)) k_ ∧ some k_ ≠ (v133 : Value).ownBlock) rfl rfl ?aO ?aR (fun _ hk => hk) ?aF ?aB ?aS ?aL ?_
                                      (case aR => exact (by skip; exact Kd.V_F (Kd.V_mono (ok' := (fun k_ => ((fun _ => True)) k_ ∧ some k_ ≠ (v133 : Value).ownBlock)) (HO139.out) (fun k_ hk => ⟨trivial, hk.2⟩))))
                                      (case aB => exact (by repeat (first | (with_reducible first | exact HB.out | apply below_alloc | apply pw_below_drewN | apply below_drew1) | exact HB.out)))
                                      (case aF => exact (fun _ _ => trivial))
                                      (case aO => exact (by (with_reducible repeat (first | apply Kd.N_alloc | apply Kd.N_drewN | apply Kd.N_drew)); exact HO134.out))
                                      (case aS => exact (below_size (by repeat (first | (with_reducible first | exact HB.out | apply below_alloc | apply pw_below_drewN | apply below_drew1) | exact HB.out))))
                                      (case aL => have := LMc26.out; omega)
                                      intro v141 w52 ho hb hg hat
                                      rw [← Ny140.out] at ho
                                      have n0_ := Aside0.mk (Kd.N_afterv (ok := (fun _ => True)) (by (with_reducible repeat (first | apply Kd.N_alloc | apply Kd.N_drewN | apply Kd.N_drew)); exact Kd.N_mono HO_9.out (fun _ hk => ⟨trivial, hk.2⟩)) hg hat)
                                      have n1_ := Aside0.mk (Kd.V_afterv (ok := (fun _ => True)) (by (with_reducible repeat (first | apply Kd.V_alloc | apply Kd.V_drewN | apply Kd.V_drew)); exact Kd.V_mono HO119.out (fun _ hk => ⟨trivial, hk.2⟩)) hg hat)
                                      have n2_ := Aside0.mk (Kd.V_afterv (ok := (fun _ => True)) (by (with_reducible repeat (first | apply Kd.V_alloc | apply Kd.V_drewN | apply Kd.V_drew)); exact Kd.V_mono HO139.out (fun _ hk => ⟨trivial, hk.2⟩)) hg hat)
                                      have n3_ := Aside0.mk (hb)
                                      have n4_ := Aside0.mk (ho)
                                      clear HO_9
                                      clear HO119
                                      clear HO139
                                      clear HB
                                      clear HO134
                                      have HO_9 := n0_
                                      have HO119 := n1_
                                      have HO139 := n2_
                                      have HB := n3_
                                      have HO142 := n4_
                                      clear n0_ n1_ n2_ n3_ n4_
                                      clear ho hb hg hat
                                      refine hK.out _ _ trivial (fun hHeld => ?_)
                                      clear hK K
                                      refine norm_ (a' := ?_) ?_ ?_
                                      rotate_left
                                      · show Act.put _ (some 67) _ = _
                                        simp only [Act.put, List.setIfInBounds_toArray, List.set_cons_zero, List.set_cons_succ, i64_w, i32_w]
                                        rfl
                                      refine pure_ (i := 9) (N := some 13) (v := ?_) (a' := ?_) #[true, true, true, true, true, true, true, true, true, true] rfl rfl (any_of HT_.out (by kernel_rfl)) (fun _ _ _ h => h) (Or.inl ⟨by rfl, ?_⟩) ?_ ?_
                                      rotate_left
                                      · intro w'
                                        go_simp
                                        with_reducible rfl
                                      rotate_left
                                      · simp only [Act.put, List.setIfInBounds_toArray, List.set_cons_zero, List.set_cons_succ, i64_w, i32_w]
                                        rfl
                                      refine done_ (done_of HT_.out (by kernel_rfl)) ?_
                                      try go_wp2_with (first | ((with_reducible refine gate_dst (N := 68) rfl ?_); (try (refine gate_guard (by rfl) ?_; dsimp only)); refine Kd.N_lit (Kd.slice 41 k41) _ 24 ?hg (N' := 68) ?hd (xs := ([] : List (List (S41)))) (inner := []) (ok := (fun k_ => some k_ ≠ (.slice Ao14 t102.length co14 : Value).ownBlock ∧ some k_ ≠ (v141 : Value).ownBlock)) (okp := (fun k_ => some k_ ≠ (.slice Ao14 t102.length co14 : Value).ownBlock ∧ some k_ ≠ (v141 : Value).ownBlock)) ?hr ?hp (fun _ hk => hk) ((show ∀ k_, w52.heap.size ≤ k_ → (fun k_ => some k_ ≠ (.slice Ao14 t102.length co14 : Value).ownBlock ∧ some k_ ≠ (v141 : Value).ownBlock) k_ from fun k_ hk => ⟨Kd.fresh' (Kd.N_lt (by (with_reducible repeat (first | apply Kd.N_alloc | apply Kd.N_drewN | apply Kd.N_drew)); exact HO_9.out)) k_ hk, Kd.fresh' (Kd.N_lt (by (with_reducible repeat (first | apply Kd.N_alloc | apply Kd.N_drewN | apply Kd.N_drew)); exact HO142.out)) k_ hk⟩) _ (Nat.le_refl _)) (Below.refl _ _) (Nat.le_refl _) (by simp) ?_; (case hd => rfl); (case hg => rfl); (case hr => first | (go_simp; done) | (go_simp; rfl)); (case hp => exact (Reps.none _ _)); intro v144 w53 ho54 hb hg_ hnew_; clear hg_ hnew_; (first | rw [← Ny143.out] at ho54 | (simp only [Int.reduceToNat] at ho54; rw [← Ny143.out] at ho54)); have n0_ := Aside0.mk (Kd.N_elder' (by (with_reducible repeat (first | apply Kd.N_alloc | apply Kd.N_drewN | apply Kd.N_drew)); exact HO_9.out) (Kd.N_base ho54) hb); have n1_ := Aside0.mk (Kd.V_elder' (by (with_reducible repeat (first | apply Kd.V_alloc | apply Kd.V_drewN | apply Kd.V_drew)); exact HO119.out) (Kd.N_base ho54) hb); have n2_ := Aside0.mk (Kd.V_elder' (by (with_reducible repeat (first | apply Kd.V_alloc | apply Kd.V_drewN | apply Kd.V_drew)); exact HO139.out) (Kd.N_base ho54) hb); have n3_ := Aside0.mk (Kd.N_elder' (by (with_reducible repeat (first | apply Kd.N_alloc | apply Kd.N_drewN | apply Kd.N_drew)); exact HO142.out) (Kd.N_base ho54) hb); have n4_ := Aside0.mk (Kd.N_lower ho54 (below_size (by repeat (first | (with_reducible first | exact HB.out | apply below_alloc | apply pw_below_drewN | apply below_drew1) | exact HB.out)))); have n5_ := Aside0.mk (below_step (by repeat (first | (with_reducible first | exact HB.out | apply below_alloc | apply pw_below_drewN | apply below_drew1) | exact HB.out)) hb); clear HO_9; clear HO119; clear HO139; clear HO142; clear HB; have HO_9 := n0_; have HO119 := n1_; have HO139 := n2_; have HO142 := n3_; have HO145 := n4_; have HB := n5_; clear n0_ n1_ n2_ n3_ n4_ n5_; clear hb ho54; have q55 : (ji7 : Int) ≤ ((t102.length : Int) : Int) := of_decide_eq_true (by first | (with_reducible assumption) | assumption); obtain ⟨i055, hi055, _, hsz55, _⟩ := info_parts info24; have hroom55 : t102.length ≤ co14 := (Kd.N_reads' HO_9.out).2.1; have hC55 : Kd.F (Kd.slice 41 k41) _ _ Ao14 t102.length t102 := (Kd.V_at (base := w.heap.size) (Kd.N_V HO_9.out)).2.2; have hcut55 := cut_to (P := Tryd.prog) 22 24 .i64 Tryd.underlying22 hi055 Ao14 t102.length co14 ji7 (of_decide_eq_true (by first | (with_reducible assumption) | assumption)) q55 hroom55; have hr55 := Kd.F_take (m := (ji7 : Int).toNat) hC55 (by omega); have hy55 : y105.length = (ji7 : Int).toNat := (by rw [Ny146.out, List.length_take]; omega); rw [← Ny146.out] at hr55; rw [← hy55] at hcut55; have HO150 := Aside0.mk (show Kd.V (Kd.slice 41 k41) 24 _ w.heap.size _ (.slice Ao14 y105.length co14) y105 from Kd.V_mk (by omega) hr55); have HC150 := Aside0.mk (show y105.length ≤ co14 from by omega); clear hr55 hC55 hroom55 hi055 hsz55; have KY55 := Aside0.mk hy55; clear hy55; replace q55 := eq_true q55) | ((with_reducible refine gate_builtin (b := .append) (xs := #[.tmp 68, .tmp 71]) rfl ?_); (try (refine gate_guard (by rfl) ?_; dsimp only)); at_builtin; refine Kd.N_append_rows (Kd.slice 41 k41) (w0 := w) w.heap.size rfl (.tmp 68) (.tmp 71) 22 24 (.slice none 0 0) 24 rfl Tryd.underlying22 info24 rfl (by decide) (by omega) v144 y143 y105 _ _ _ (fun k_ => some k_ ≠ (v141 : Value).ownBlock) (fun k_ => ((fun k_ => some k_ ≠ (v141 : Value).ownBlock)) k_ ∧ some k_ ≠ (v144 : Value).ownBlock) rfl rfl ?aO ?aR (fun _ hk => hk) ?aF ?aB ?aS ?aL ?_; (case aR => exact (by skip; exact Kd.V_F (Kd.V_mono (ok' := (fun k_ => ((fun k_ => some k_ ≠ (v141 : Value).ownBlock)) k_ ∧ some k_ ≠ (v144 : Value).ownBlock)) (HO150.out) (fun k_ hk => ⟨hk.1.2, hk.2⟩)))); (case aB => exact (by repeat (first | (with_reducible first | exact HB.out | apply below_alloc | apply pw_below_drewN | apply below_drew1) | exact HB.out))); (case aF => exact (fun k_ hk => Kd.fresh' (Kd.N_lt (by (with_reducible repeat (first | apply Kd.N_alloc | apply Kd.N_drewN | apply Kd.N_drew)); exact HO142.out)) k_ hk)); (case aO => exact (by (with_reducible repeat (first | apply Kd.N_alloc | apply Kd.N_drewN | apply Kd.N_drew)); exact Kd.N_mono HO145.out (fun _ hk => hk.2))); (case aS => exact (below_size (by repeat (first | (with_reducible first | exact HB.out | apply below_alloc | apply pw_below_drewN | apply below_drew1) | exact HB.out)))); (case aL => have := LMc29.out; omega); intro v152 w56 ho hb hg hat; rw [← Ny151.out] at ho; have n0_ := Aside0.mk (Kd.N_afterv (ok := (fun k_ => some k_ ≠ (v141 : Value).ownBlock)) (by (with_reducible repeat (first | apply Kd.N_alloc | apply Kd.N_drewN | apply Kd.N_drew)); exact Kd.N_mono HO_9.out (fun _ hk => ⟨hk.1.2, hk.2⟩)) hg hat); have n1_ := Aside0.mk (Kd.V_afterv (ok := (fun k_ => some k_ ≠ (v141 : Value).ownBlock)) (by (with_reducible repeat (first | apply Kd.V_alloc | apply Kd.V_drewN | apply Kd.V_drew)); exact Kd.V_mono HO119.out (fun _ hk => ⟨hk.1.2, hk.2⟩)) hg hat); have n2_ := Aside0.mk (Kd.V_afterv (ok := (fun k_ => some k_ ≠ (v141 : Value).ownBlock)) (by (with_reducible repeat (first | apply Kd.V_alloc | apply Kd.V_drewN | apply Kd.V_drew)); exact Kd.V_mono HO139.out (fun _ hk => ⟨hk.1.2, hk.2⟩)) hg hat); have n3_ := Aside0.mk (Kd.N_afterv (ok := (fun _ => True)) (by (with_reducible repeat (first | apply Kd.N_alloc | apply Kd.N_drewN | apply Kd.N_drew)); exact HO142.out) hg hat); have n4_ := Aside0.mk (Kd.V_afterv (ok := (fun k_ => some k_ ≠ (v141 : Value).ownBlock)) (by (with_reducible repeat (first | apply Kd.V_alloc | apply Kd.V_drewN | apply Kd.V_drew)); exact Kd.V_mono HO150.out (fun _ hk => ⟨hk.1.2, hk.2⟩)) hg hat); have n5_ := Aside0.mk (hb); have n6_ := Aside0.mk (ho); clear HO_9; clear HO119; clear HO139; clear HO142; clear HO150; clear HB; clear HO145; have HO_9 := n0_; have HO119 := n1_; have HO139 := n2_; have HO142 := n3_; have HO150 := n4_; have HB := n5_; have HO153 := n6_; clear n0_ n1_ n2_ n3_ n4_ n5_ n6_; clear ho hb hg hat) | ((with_reducible refine gate_dst (N := 74) rfl ?_); (try (refine gate_guard (by rfl) ?_; dsimp only)); refine Kd.R_lit k41 _ 41 ?hg (N := 74) ?hd (xs := ([(⟨0, 0, (⟨#[]⟩ : ByteArray)⟩ : S41)] : List (S41))) (inner := [.int .i64 0, .int .i64 0, .string (⟨#[]⟩ : ByteArray)]) (ok := fun _ => True) (okp := fun _ => True) ?hr ?hp (fun _ hk => hk) trivial (Below.refl _ _) (Nat.le_refl _) (by simp) ?_; (case hd => rfl); (case hg => rfl); (case hr => first | (go_simp; done) | (go_simp; rfl)); (case hp => exact (Reps.c3 (show Kd.M k41 _ _ _ (⟨0, 0, (⟨#[]⟩ : ByteArray)⟩ : S41) [.int .i64 0, .int .i64 0, .string (⟨#[]⟩ : ByteArray)] from (k41_mkM _ _ _ (⟨0, 0, (⟨#[]⟩ : ByteArray)⟩ : S41) )) (Reps.none _ _))); intro v155 w57 ho58 hb hg_ hnew_; clear hg_ hnew_; (first | rw [← Ny154.out] at ho58 | (simp only [Int.reduceToNat] at ho58; rw [← Ny154.out] at ho58)); have n0_ := Aside0.mk (Kd.N_elder' (by (with_reducible repeat (first | apply Kd.N_alloc | apply Kd.N_drewN | apply Kd.N_drew)); exact HO_9.out) (Kd.R_base ho58) hb); have n1_ := Aside0.mk (Kd.V_elder' (by (with_reducible repeat (first | apply Kd.V_alloc | apply Kd.V_drewN | apply Kd.V_drew)); exact HO119.out) (Kd.R_base ho58) hb); have n2_ := Aside0.mk (Kd.V_elder' (by (with_reducible repeat (first | apply Kd.V_alloc | apply Kd.V_drewN | apply Kd.V_drew)); exact HO139.out) (Kd.R_base ho58) hb); have n3_ := Aside0.mk (Kd.N_elder' (by (with_reducible repeat (first | apply Kd.N_alloc | apply Kd.N_drewN | apply Kd.N_drew)); exact HO142.out) (Kd.R_base ho58) hb); have n4_ := Aside0.mk (Kd.V_elder' (by (with_reducible repeat (first | apply Kd.V_alloc | apply Kd.V_drewN | apply Kd.V_drew)); exact HO150.out) (Kd.R_base ho58) hb); have n5_ := Aside0.mk (Kd.N_elder' (by (with_reducible repeat (first | apply Kd.N_alloc | apply Kd.N_drewN | apply Kd.N_drew)); exact HO153.out) (Kd.R_base ho58) hb); have n6_ := Aside0.mk (Kd.R_lower ho58 (below_size (by repeat (first | (with_reducible first | exact HB.out | apply below_alloc | apply pw_below_drewN | apply below_drew1) | exact HB.out)))); have n7_ := Aside0.mk (below_step (by repeat (first | (with_reducible first | exact HB.out | apply below_alloc | apply pw_below_drewN | apply below_drew1) | exact HB.out)) hb); clear HO_9; clear HO119; clear HO139; clear HO142; clear HO150; clear HO153; clear HB; have HO_9 := n0_; have HO119 := n1_; have HO139 := n2_; have HO142 := n3_; have HO150 := n4_; have HO153 := n5_; have HO156 := n6_; have HB := n7_; clear n0_ n1_ n2_ n3_ n4_ n5_ n6_ n7_; clear hb ho58; obtain ⟨Ao60, co60, eo60⟩ := Kd.R_slice HO156.out; subst eo60) | ((with_reducible refine gate_builtin (b := .append) (xs := #[.tmp 72, .tmp 75]) rfl ?_); (try (refine gate_guard (by rfl) ?_; dsimp only)); at_builtin; refine Kd.N_append (Kd.slice 41 k41) (w0 := w) w.heap.size rfl (.tmp 72) (.tmp 75) 22 24 (.slice none 0 0) 24 rfl Tryd.underlying22 info24 rfl (by decide) (by omega) v152 y151 y154 [.slice Ao60 y154.length co60] (fun k_ => some k_ ≠ (v141 : Value).ownBlock) (fun k_ => ((fun k_ => some k_ ≠ (v141 : Value).ownBlock)) k_ ∧ some k_ ≠ (v152 : Value).ownBlock) rfl rfl ?aP (fun _ hk => hk) ?aF ?aO ?aB ?aS ?aL ?_; (case aP => exact (Kd.FK_slice_mk (Kd.R_reads' (Kd.R_mono (ok' := (fun k_ => ((fun k_ => some k_ ≠ (v141 : Value).ownBlock)) k_ ∧ some k_ ≠ (v152 : Value).ownBlock)) (Kd.R_apart' (Kd.R_apart' (HO156.out) (Kd.N_typed HO142.out) (by decide)) (Kd.N_typed HO153.out) (by decide)) (fun k_ hk => ⟨hk.1.2, hk.2⟩))).2.1 (Kd.R_F (Kd.R_mono (ok' := (fun k_ => ((fun k_ => some k_ ≠ (v141 : Value).ownBlock)) k_ ∧ some k_ ≠ (v152 : Value).ownBlock)) (Kd.R_apart' (Kd.R_apart' (HO156.out) (Kd.N_typed HO142.out) (by decide)) (Kd.N_typed HO153.out) (by decide)) (fun k_ hk => ⟨hk.1.2, hk.2⟩))))); (case aB => exact (by repeat (first | (with_reducible first | exact HB.out | apply below_alloc | apply pw_below_drewN | apply below_drew1) | exact HB.out))); (case aF => exact (fun k_ hk => Kd.fresh' (Kd.N_lt (by (with_reducible repeat (first | apply Kd.N_alloc | apply Kd.N_drewN | apply Kd.N_drew)); exact HO142.out)) k_ hk)); (case aO => exact (by (with_reducible repeat (first | apply Kd.N_alloc | apply Kd.N_drewN | apply Kd.N_drew)); exact Kd.N_mono HO153.out (fun _ hk => hk.1))); (case aS => exact (below_size (by repeat (first | (with_reducible first | exact HB.out | apply below_alloc | apply pw_below_drewN | apply below_drew1) | exact HB.out)))); (case aL => have := LMc30.out; omega); intro v158 w59 ho hb hg hat; rw [← Ny157.out] at ho; have n0_ := Aside0.mk (Kd.N_afterv (ok := (fun k_ => some k_ ≠ (v141 : Value).ownBlock ∧ some k_ ≠ (.slice Ao60 y154.length co60 : Value).ownBlock)) (by (with_reducible repeat (first | apply Kd.N_alloc | apply Kd.N_drewN | apply Kd.N_drew)); exact Kd.N_mono HO_9.out (fun _ hk => ⟨⟨hk.1.1, hk.2⟩, hk.1.2⟩)) hg hat); have n1_ := Aside0.mk (Kd.V_afterv (ok := (fun k_ => some k_ ≠ (v141 : Value).ownBlock ∧ some k_ ≠ (.slice Ao60 y154.length co60 : Value).ownBlock)) (by (with_reducible repeat (first | apply Kd.V_alloc | apply Kd.V_drewN | apply Kd.V_drew)); exact Kd.V_mono HO119.out (fun _ hk => ⟨⟨hk.1.1, hk.2⟩, hk.1.2⟩)) hg hat); have n2_ := Aside0.mk (Kd.V_afterv (ok := (fun k_ => some k_ ≠ (v141 : Value).ownBlock ∧ some k_ ≠ (.slice Ao60 y154.length co60 : Value).ownBlock)) (by (with_reducible repeat (first | apply Kd.V_alloc | apply Kd.V_drewN | apply Kd.V_drew)); exact Kd.V_mono HO139.out (fun _ hk => ⟨⟨hk.1.1, hk.2⟩, hk.1.2⟩)) hg hat); have n3_ := Aside0.mk (Kd.N_afterv (ok := (fun k_ => some k_ ≠ (.slice Ao60 y154.length co60 : Value).ownBlock)) (by (with_reducible repeat (first | apply Kd.N_alloc | apply Kd.N_drewN | apply Kd.N_drew)); exact Kd.N_mono HO142.out (fun _ hk => ⟨hk.2, hk.1.2⟩)) hg hat); have n4_ := Aside0.mk (Kd.V_afterv (ok := (fun k_ => some k_ ≠ (v141 : Value).ownBlock ∧ some k_ ≠ (.slice Ao60 y154.length co60 : Value).ownBlock)) (by (with_reducible repeat (first | apply Kd.V_alloc | apply Kd.V_drewN | apply Kd.V_drew)); exact Kd.V_mono HO150.out (fun _ hk => ⟨⟨hk.1.1, hk.2⟩, hk.1.2⟩)) hg hat); have n5_ := Aside0.mk (hb); have n6_ := Aside0.mk (ho); clear HO_9; clear HO119; clear HO139; clear HO142; clear HO150; clear HB; clear HO153; clear HO156; have HO_9 := n0_; have HO119 := n1_; have HO139 := n2_; have HO142 := n3_; have HO150 := n4_; have HB := n5_; have HO159 := n6_; clear n0_ n1_ n2_ n3_ n4_ n5_ n6_; clear ho hb hg hat; obtain ⟨Ao61, co61, eo61⟩ := Kd.N_slice HO142.out; subst eo61) | ((with_reducible refine gate_callee (f := 15) rfl ?_); refine goesL_ (some 80) rfl rfl Tryd.func15 (by kernel_rfl) rfl #[.int .i64 (wrap64 (Int.tmod a1 64)), .slice Ao61 y140.length co61] rfl (by (try simp only [List.map_toArray, List.map_cons, List.map_nil]); first | done | rfl | (simp only [List.length_drop, List.length_take]; rfl)) ?_; (with_reducible refine (fuse_Of.calls kj10 (wrap64 (Int.tmod a1 64)) _ _ y140 t160 t161 _ ?side1 ?side2 ?side3 A31.out).mono ?_); (case side1 => first | (with_reducible exact HG.out) | exact Glob.below HG.out (by repeat (first | (with_reducible first | exact HB.out | apply below_alloc | apply pw_below_drewN | apply below_drew1) | exact HB.out)) | exact Glob.drawn HG.out (by repeat (first | exact Drawn0.refl _ | apply Drawn0.step))); (case side2 => repeat (first | exact (Kd.N_reads' HO142.out).2.2 | (with_reducible refine Kd.C_alloc ?_ _) | (with_reducible refine Kd.C_drewN ?_ _) | (with_reducible refine Kd.C_drew ?_))); (case side3 => exact (Kd.N_reads' HO142.out).2.1); rintro e w62 ⟨v162, rfl, ho0, hb⟩; refine ⟨_, rfl, ?_⟩; have n0_ := Aside0.mk (Kd.N_elder' (by (with_reducible repeat (first | apply Kd.N_alloc | apply Kd.N_drewN | apply Kd.N_drew)); exact HO_9.out) (Kd.R_base ho0) hb); have n1_ := Aside0.mk (Kd.V_elder' (by (with_reducible repeat (first | apply Kd.V_alloc | apply Kd.V_drewN | apply Kd.V_drew)); exact HO119.out) (Kd.R_base ho0) hb); have n2_ := Aside0.mk (Kd.V_elder' (by (with_reducible repeat (first | apply Kd.V_alloc | apply Kd.V_drewN | apply Kd.V_drew)); exact HO139.out) (Kd.R_base ho0) hb); have n3_ := Aside0.mk (Kd.N_elder' (by (with_reducible repeat (first | apply Kd.N_alloc | apply Kd.N_drewN | apply Kd.N_drew)); exact HO142.out) (Kd.R_base ho0) hb); have n4_ := Aside0.mk (Kd.V_elder' (by (with_reducible repeat (first | apply Kd.V_alloc | apply Kd.V_drewN | apply Kd.V_drew)); exact HO150.out) (Kd.R_base ho0) hb); have n5_ := Aside0.mk (Kd.N_elder' (by (with_reducible repeat (first | apply Kd.N_alloc | apply Kd.N_drewN | apply Kd.N_drew)); exact HO159.out) (Kd.R_base ho0) hb); have n6_ := Aside0.mk (Kd.R_lower ho0 (below_size (by repeat (first | (with_reducible first | exact HB.out | apply below_alloc | apply pw_below_drewN | apply below_drew1) | exact HB.out)))); have n7_ := Aside0.mk (below_step (by repeat (first | (with_reducible first | exact HB.out | apply below_alloc | apply pw_below_drewN | apply below_drew1) | exact HB.out)) hb); clear HO_9; clear HO119; clear HO139; clear HO142; clear HO150; clear HO159; clear HB; have HO_9 := n0_; have HO119 := n1_; have HO139 := n2_; have HO142 := n3_; have HO150 := n4_; have HO159 := n5_; have HO163 := n6_; have HB := n7_; clear n0_ n1_ n2_ n3_ n4_ n5_ n6_ n7_; (try clear hb); (try clear hb2); (try clear hk); (try clear hi); (try clear ho0); (try clear A31)) | ((with_reducible refine gate_callee (f := 18) rfl ?_); refine goesL_ (some 86) rfl rfl Tryd.func18 (by kernel_rfl) rfl #[.int .i64 (wrap64 (Int.tmod a1 64)), .slice Ao61 y140.length co61] rfl (by (try simp only [List.map_toArray, List.map_cons, List.map_nil]); first | done | rfl | (simp only [List.length_drop, List.length_take]; rfl)) ?_; (with_reducible refine (fuse_Chain.calls kj10 (wrap64 (Int.tmod a1 64)) _ _ y140 t164 t165 _ ?side1 ?side2 ?side3 A32.out).mono ?_); (case side1 => first | (with_reducible exact HG.out) | exact Glob.below HG.out (by repeat (first | (with_reducible first | exact HB.out | apply below_alloc | apply pw_below_drewN | apply below_drew1) | exact HB.out)) | exact Glob.drawn HG.out (by repeat (first | exact Drawn0.refl _ | apply Drawn0.step))); (case side2 => repeat (first | exact (Kd.N_reads' HO142.out).2.2 | (with_reducible refine Kd.C_alloc ?_ _) | (with_reducible refine Kd.C_drewN ?_ _) | (with_reducible refine Kd.C_drew ?_))); (case side3 => exact (Kd.N_reads' HO142.out).2.1); rintro e w63 ⟨rfl, hb⟩; refine ⟨_, rfl, ?_⟩; have n0_ := Aside0.mk (Kd.N_below (by (with_reducible repeat (first | apply Kd.N_alloc | apply Kd.N_drewN | apply Kd.N_drew)); exact HO_9.out) hb); have n1_ := Aside0.mk (Kd.V_below (by (with_reducible repeat (first | apply Kd.V_alloc | apply Kd.V_drewN | apply Kd.V_drew)); exact HO119.out) hb); have n2_ := Aside0.mk (Kd.V_below (by (with_reducible repeat (first | apply Kd.V_alloc | apply Kd.V_drewN | apply Kd.V_drew)); exact HO139.out) hb); have n3_ := Aside0.mk (Kd.N_below (by (with_reducible repeat (first | apply Kd.N_alloc | apply Kd.N_drewN | apply Kd.N_drew)); exact HO142.out) hb); have n4_ := Aside0.mk (Kd.V_below (by (with_reducible repeat (first | apply Kd.V_alloc | apply Kd.V_drewN | apply Kd.V_drew)); exact HO150.out) hb); have n5_ := Aside0.mk (Kd.N_below (by (with_reducible repeat (first | apply Kd.N_alloc | apply Kd.N_drewN | apply Kd.N_drew)); exact HO159.out) hb); have n6_ := Aside0.mk (Kd.R_below (by (with_reducible repeat (first | apply Kd.R_alloc | apply Kd.R_drewN | apply Kd.R_drew)); exact HO163.out) hb); have n7_ := Aside0.mk (below_step (by repeat (first | (with_reducible first | exact HB.out | apply below_alloc | apply pw_below_drewN | apply below_drew1) | exact HB.out)) hb); clear HO_9; clear HO119; clear HO139; clear HO142; clear HO150; clear HO159; clear HO163; clear HB; have HO_9 := n0_; have HO119 := n1_; have HO139 := n2_; have HO142 := n3_; have HO150 := n4_; have HO159 := n5_; have HO163 := n6_; have HB := n7_; clear n0_ n1_ n2_ n3_ n4_ n5_ n6_ n7_; (try clear hb); (try clear hb2); (try clear hk); (try clear hi); obtain ⟨Ao64, co64, eo64⟩ := Kd.N_slice HO159.out; subst eo64) | ((with_reducible refine gate_callee (f := 15) rfl ?_); refine goesL_ (some 92) rfl rfl Tryd.func15 (by kernel_rfl) rfl #[.int .i64 (wrap64 (Int.tmod a1 64)), .slice Ao64 y157.length co64] rfl (by (try simp only [List.map_toArray, List.map_cons, List.map_nil]); first | done | rfl | (simp only [List.length_drop, List.length_take]; rfl)) ?_; (with_reducible refine (fuse_Of.calls kj10 (wrap64 (Int.tmod a1 64)) _ _ y157 t166 t167 _ ?side1 ?side2 ?side3 A33.out).mono ?_); (case side1 => first | (with_reducible exact HG.out) | exact Glob.below HG.out (by repeat (first | (with_reducible first | exact HB.out | apply below_alloc | apply pw_below_drewN | apply below_drew1) | exact HB.out)) | exact Glob.drawn HG.out (by repeat (first | exact Drawn0.refl _ | apply Drawn0.step))); (case side2 => repeat (first | exact (Kd.N_reads' HO159.out).2.2 | (with_reducible refine Kd.C_alloc ?_ _) | (with_reducible refine Kd.C_drewN ?_ _) | (with_reducible refine Kd.C_drew ?_))); (case side3 => exact (Kd.N_reads' HO159.out).2.1); rintro e w65 ⟨v168, rfl, ho0, hb⟩; refine ⟨_, rfl, ?_⟩; have n0_ := Aside0.mk (Kd.N_elder' (by (with_reducible repeat (first | apply Kd.N_alloc | apply Kd.N_drewN | apply Kd.N_drew)); exact HO_9.out) (Kd.R_base ho0) hb); have n1_ := Aside0.mk (Kd.V_elder' (by (with_reducible repeat (first | apply Kd.V_alloc | apply Kd.V_drewN | apply Kd.V_drew)); exact HO119.out) (Kd.R_base ho0) hb); have n2_ := Aside0.mk (Kd.V_elder' (by (with_reducible repeat (first | apply Kd.V_alloc | apply Kd.V_drewN | apply Kd.V_drew)); exact HO139.out) (Kd.R_base ho0) hb); have n3_ := Aside0.mk (Kd.N_elder' (by (with_reducible repeat (first | apply Kd.N_alloc | apply Kd.N_drewN | apply Kd.N_drew)); exact HO142.out) (Kd.R_base ho0) hb); have n4_ := Aside0.mk (Kd.V_elder' (by (with_reducible repeat (first | apply Kd.V_alloc | apply Kd.V_drewN | apply Kd.V_drew)); exact HO150.out) (Kd.R_base ho0) hb); have n5_ := Aside0.mk (Kd.N_elder' (by (with_reducible repeat (first | apply Kd.N_alloc | apply Kd.N_drewN | apply Kd.N_drew)); exact HO159.out) (Kd.R_base ho0) hb); have n6_ := Aside0.mk (Kd.R_elder' (by (with_reducible repeat (first | apply Kd.R_alloc | apply Kd.R_drewN | apply Kd.R_drew)); exact HO163.out) (Kd.R_base ho0) hb); have n7_ := Aside0.mk (Kd.R_lower (Kd.R_new' ho0 (Kd.R_lt (by (with_reducible repeat (first | apply Kd.R_alloc | apply Kd.R_drewN | apply Kd.R_drew)); exact HO163.out))) (below_size (by repeat (first | (with_reducible first | exact HB.out | apply below_alloc | apply pw_below_drewN | apply below_drew1) | exact HB.out)))); have n8_ := Aside0.mk (below_step (by repeat (first | (with_reducible first | exact HB.out | apply below_alloc | apply pw_below_drewN | apply below_drew1) | exact HB.out)) hb); clear HO_9; clear HO119; clear HO139; clear HO142; clear HO150; clear HO159; clear HO163; clear HB; have HO_9 := n0_; have HO119 := n1_; have HO139 := n2_; have HO142 := n3_; have HO150 := n4_; have HO159 := n5_; have HO163 := n6_; have HO169 := n7_; have HB := n8_; clear n0_ n1_ n2_ n3_ n4_ n5_ n6_ n7_ n8_; (try clear hb); (try clear hb2); (try clear hk); (try clear hi); (try clear ho0); obtain ⟨Ao66, co66, eo66⟩ := Kd.R_slice HO163.out; subst eo66; obtain ⟨Ao67, co67, eo67⟩ := Kd.R_slice HO169.out; subst eo67; (try clear A33)))
                                      go_ret
                                      exact ⟨by first | rfl | (simp [errW_none, errW_some] <;> rfl) | (simp only [← hji7]; first | rfl | (simp [errW_none, errW_some] <;> rfl)) | (simp [*, errW_none, errW_some] <;> rfl), by repeat (first | (with_reducible first | exact HB.out | apply below_alloc | apply pw_below_drewN | apply below_drew1) | exact HB.out)⟩
                                    · rw [if_neg c37] at H
                                      have c37b0 : ((t160.length : Int) == 0) = false := beq_eq_false_iff_ne.mpr c37
                                      have c37b1 : ((t160.length : Int) != 0) = true := bne_iff_ne.mpr c37
                                      have c37b2 : ¬ (t160 = []) := fun h_ => c37 (by rw [h_]; rfl)
                                      exact Bool.noConfusion ((Option.some.inj H).trans hr_.out)
                                  · rw [if_neg c36] at H
                                    have c36b0 : (t167 == 1) = false := beq_eq_false_iff_ne.mpr c36
                                    have c36b1 : (t167 != 1) = true := bne_iff_ne.mpr c36
                                    exact Bool.noConfusion ((Option.some.inj H).trans hr_.out)
                                · rw [if_neg c35] at H
                                  have c35b0 : (t165 == 5) = false := beq_eq_false_iff_ne.mpr c35
                                  have c35b1 : (t165 != 5) = true := bne_iff_ne.mpr c35
                                  exact Bool.noConfusion ((Option.some.inj H).trans hr_.out)
                              · rw [if_neg c34] at H
                                have c34b0 : (t161 == 5) = false := beq_eq_false_iff_ne.mpr c34
                                have c34b1 : (t161 != 5) = true := bne_iff_ne.mpr c34
                                exact Bool.noConfusion ((Option.some.inj H).trans hr_.out)
                            · rw [if_neg c30] at H
                              exact absurd H (by simp)
                          · rw [if_neg c29] at H
                            exact absurd H (by simp)
                        · rw [if_neg c26] at H
                          exact absurd H (by simp)
                      · rw [if_neg c23] at H
                        exact absurd H (by simp)
                    · rw [if_neg c22] at H
                      exact absurd H (by simp)
                  · rw [if_neg c21] at H
                    exact absurd H (by simp)
                · rw [if_neg c20] at H
                  exact absurd H (by simp)
              · rw [if_neg c19] at H
                exact absurd H (by simp)
      · rw [if_neg c9] at H
        exact absurd H (by simp)
    · rw [if_neg c8] at H
      exact absurd H (by simp)
end Go.Proofs.YthhgobiaecehbaaDoor.F
end
