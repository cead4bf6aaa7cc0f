import Derived.Test.YthhgobiaecehbaaDoorKGThE
import Derived.Below
import Derived.Deep.Draws
import Derived.Deep.AppendLies
import Derived.Maps.AppendAt
import Derived.OwnWalk
import Derived.Laws.BytesArg
import Derived.Laws.MakeOwn
import Derived.Laws.OwnMore
import Derived.Deep.OwnRows
import Derived.Tactics
import Derived.Lib.ConvBytes
import Derived.Laws.Slices
import Derived.WalkKit
import Derived.KernelRfl
import Derived.RowKit3
import Derived.Deep.LoopGhost
import Derived.Deep.QuietTactic
import Derived.BigQuiet
import Derived.WideLaws
import Derived.Deep.DeepCutAuto
import Derived.Deep.CutBlock
import Derived.Deep.RegionHeld3
import Derived.Laws.Rows
import Derived.Lib.AppendStr
import Derived.ArgAppend
import Derived.Laws.IdiomCopy
import Derived.RowKit
import Derived.OrdersHeld
import Derived.Laws.BitsLemmas
import Derived.Laws.StructEq
import Derived.Test.YthhgobiaecehbaaDoorProg
import Derived.Handy
import Derived.Shelf.Unicode.DecodeSlow
import Derived.Ground.NamesProg
import Derived.Shelf.Unicode.ValidAny
import Derived.Laws.RangeString
import Derived.Laws.RangeAny
import Derived.Lib.RuneCount
import Derived.Laws.IdiomStrings
import Derived.Laws.Cover4
import Derived.Great.BuildSlice
import Derived.Defers
import Derived.Laws.EntriesVeiled
section
namespace Go.Proofs.YthhgobiaecehbaaDoor.F
open Go.RowKit Go.Proofs.YthhgobiaecehbaaDoorW.PrintWords Go.Proofs.YthhgobiaecehbaaDoorW.PrintLast Go.Proofs.YthhgobiaecehbaaDoorW.PrintMore
attribute [local go_sem] max2_int min2_int max_two min_two max_three min_three max_four min_four cell_setCell_isSome
set_option linter.unusedVariables false
set_option linter.unusedSimpArgs false
open Kd
def epitomelaw13_ThroughParts.f (k : Nat) (l0 : List (S41)) (l1 : List (List (S41))) (a2_0 : Int) (a2_1 : Int) : Option (Bool) := (epitomelaw13_shown.f k).bind fun t102 => ((epitomeref04_Fit.f k l0 (wrap64 (Int.tmod a2_0 64))).bind fun t103 => ((epitomeref04_Chain.f k l1 (wrap64 (Int.tmod a2_0 64))).bind fun t106 => (if (wrap64 ((t106.length : Int) + 1)) = 0 then (none) else (if 0 ≤ (Int.tmod (wrap64 (a2_1)) (wrap64 ((t106.length : Int) + 1))) then (if (Int.tmod (wrap64 (a2_1)) (wrap64 ((t106.length : Int) + 1))) ≤ (t106.length : Int) then ((fuse_Of.f k (wrap64 (Int.tmod a2_0 64)) (t106.take ((Int.tmod (wrap64 (a2_1)) (wrap64 ((t106.length : Int) + 1))) : Int).toNat)).bind fun bt114 => ((op_Out.f k bt114.1).bind fun t118 => ((fuse_Of.f k t118 (t106.drop ((Int.tmod (wrap64 (a2_1)) (wrap64 ((t106.length : Int) + 1))) : Int).toNat)).bind fun bt124 => ((through_Of.f k t103 t106).bind fun bt128 => ((through_Of.f k t103 (([bt114.1, bt124.1] : List (List (S41))))).bind fun bt135 => ((through_Patch.f k t103 t106).bind fun bt139 => ((through_Patch.f k t103 (([bt114.1, bt124.1] : List (List (S41))))).bind fun bt146 => (if t102 = true then (if bt114.2 = 0 then (if bt124.2 = 0 then (if bt128.2 = 0 then (if bt135.2 = 0 then (if bt139.2 = 0 then (if bt146.2 = 0 then ((epitomeref04_Same.f k bt128.1 bt135.1).bind fun t150 => (if t150 = true then ((epitomeref04_Same.f k bt139.1 bt146.1).bind fun t151 => (some t151)) else (some false))) else (some false)) else (some false)) else (some false)) else (some false)) else (some false)) else (some false)) else (some false))))))))) else (none)) else (none)))))
def epitomelaw13_ThroughParts.T7 : Bool × List (List Nat × List Nat) := (true, [([], []), ([0], [0]), ([], []), ([], []), ([2, 3], [2, 3]), ([1, 4, 1], [1, 4]), ([5], [5]), ([6], [6]), ([6], [6]), ([7, 5, 0, 1, 2, 3, 4, 5, 6, 7], [7]), ([8, 9, 0, 1, 2, 3, 4, 5, 6, 7, 8, 9], [8])])
def epitomelaw13_ThroughParts.B7 : List Nat := [0, 1, 0, 0, 12, 31, 63, 127, 127, 255, 1023]
theorem epitomelaw13_ThroughParts.tab7 : rtab .any (opsOf Tryd.f10 7) = epitomelaw13_ThroughParts.T7 := by kernel_rfl
theorem epitomelaw13_ThroughParts.bits7 : waitsOk epitomelaw13_ThroughParts.T7.2 epitomelaw13_ThroughParts.B7 = true := by kernel_rfl
set_option maxHeartbeats 8000000 in
set_option maxRecDepth 100000 in
theorem epitomelaw13_ThroughParts.calls (k : Nat) (A0 : Option Addr) (c0 : Nat) (l0 : List (S41)) (A1 : Option Addr) (c1 : Nat) (l1 : List (List (S41))) (a2_0 : Int) (a2_1 : Int) (r : Bool) (hr_ : Aside0 (r = true)) (w : World) (hG : Glob w) (hr0 : Kd.C k41 w A0 l0.length l0) (hc0 : l0.length ≤ c0) (hr1 : Kd.C (Kd.slice 41 k41) w A1 l1.length l1) (hc1 : l1.length ≤ c1) (h : epitomelaw13_ThroughParts.f k l0 l1 a2_0 a2_1 = some r) :
  Calls Tryd.prog 10 #[.slice A0 l0.length c0, .slice A1 l1.length c1, .agg #[.int .u8 a2_0, .int .u8 a2_1]] w fun e w' => e = .returned (.bool r) ∧ Below w.heap.size w w' := by
 have hu55 := Tryd.underlying55
 have HG := Am hG
 clear hG
 have HR0 := Am hr0
 have HC0 := Am hc0
 clear hr0 hc0
 have HR1 := Am hr1
 have HC1 := Am hc1
 clear hr1 hc1
 have HB := Am (Below.refl w.heap.size w)
 have H : ((epitomelaw13_shown.f k).bind fun t102 => ((epitomeref04_Fit.f k l0 (wrap64 (Int.tmod a2_0 64))).bind fun t103 => ((epitomeref04_Chain.f k l1 (wrap64 (Int.tmod a2_0 64))).bind fun t106 => (if (wrap64 ((t106.length : Int) + 1)) = 0 then (none) else (if 0 ≤ (Int.tmod (wrap64 (a2_1)) (wrap64 ((t106.length : Int) + 1))) then (if (Int.tmod (wrap64 (a2_1)) (wrap64 ((t106.length : Int) + 1))) ≤ (t106.length : Int) then ((fuse_Of.f k (wrap64 (Int.tmod a2_0 64)) (t106.take ((Int.tmod (wrap64 (a2_1)) (wrap64 ((t106.length : Int) + 1))) : Int).toNat)).bind fun bt114 => ((op_Out.f k bt114.1).bind fun t118 => ((fuse_Of.f k t118 (t106.drop ((Int.tmod (wrap64 (a2_1)) (wrap64 ((t106.length : Int) + 1))) : Int).toNat)).bind fun bt124 => ((through_Of.f k t103 t106).bind fun bt128 => ((through_Of.f k t103 (([bt114.1, bt124.1] : List (List (S41))))).bind fun bt135 => ((through_Patch.f k t103 t106).bind fun bt139 => ((through_Patch.f k t103 (([bt114.1, bt124.1] : List (List (S41))))).bind fun bt146 => (if t102 = true then (if bt114.2 = 0 then (if bt124.2 = 0 then (if bt128.2 = 0 then (if bt135.2 = 0 then (if bt139.2 = 0 then (if bt146.2 = 0 then ((epitomeref04_Same.f k bt128.1 bt135.1).bind fun t150 => (if t150 = true then ((epitomeref04_Same.f k bt139.1 bt146.1).bind fun t151 => (some t151)) else (some false))) else (some false)) else (some false)) else (some false)) else (some false)) else (some false)) else (some false)) else (some false))))))))) else (none)) else (none)))))) = some r := h
 clear h
 replace H := Option.bind_eq_some_iff.mp H
 obtain ⟨t102, A40, H⟩ := H
 have A4 := Am A40
 clear A40
 replace H := Option.bind_eq_some_iff.mp H
 obtain ⟨t103, A50, H⟩ := H
 have A5 := Am A50
 clear A50
 replace H := Option.bind_eq_some_iff.mp H
 obtain ⟨t106, A60, H⟩ := H
 have A6 := Am A60
 clear A60
 by_cases c7 : (wrap64 ((t106.length : Int) + 1)) = 0
 ·rw [if_pos c7] at H
  exact absurd H (by simp)
 ·rw [if_neg c7] at H
  have c7b0 : ((wrap64 ((t106.length : Int) + 1)) == 0) = false := beq_eq_false_iff_ne.mpr c7
  have c7b1 : ((wrap64 ((t106.length : Int) + 1)) != 0) = true := bne_iff_ne.mpr c7
  obtain ⟨ji8, hji8⟩ : ∃ j_ : Int, (Int.tmod (wrap64 (a2_1)) (wrap64 ((t106.length : Int) + 1))) = j_ := ⟨_, rfl⟩
  replace H : (if 0 ≤ (ji8) then (if (ji8) ≤ (t106.length : Int) then ((fuse_Of.f k (wrap64 (Int.tmod a2_0 64)) (t106.take ((ji8) : Int).toNat)).bind fun bt114 => ((op_Out.f k bt114.1).bind fun t118 => ((fuse_Of.f k t118 (t106.drop ((ji8) : Int).toNat)).bind fun bt124 => ((through_Of.f k t103 t106).bind fun bt128 => ((through_Of.f k t103 (([bt114.1, bt124.1] : List (List (S41))))).bind fun bt135 => ((through_Patch.f k t103 t106).bind fun bt139 => ((through_Patch.f k t103 (([bt114.1, bt124.1] : List (List (S41))))).bind fun bt146 => (if t102 = true then (if bt114.2 = 0 then (if bt124.2 = 0 then (if bt128.2 = 0 then (if bt135.2 = 0 then (if bt139.2 = 0 then (if bt146.2 = 0 then ((epitomeref04_Same.f k bt128.1 bt135.1).bind fun t150 => (if t150 = true then ((epitomeref04_Same.f k bt139.1 bt146.1).bind fun t151 => (some t151)) else (some false))) else (some false)) else (some false)) else (some false)) else (some false)) else (some false)) else (some false)) else (some false))))))))) else (none)) else (none)) = some r := by first | (rw [hji8] at H; exact H) | (simp only [hji8] at H ⊢; exact H)
  (try rw [hji8] at A4)
  (try rw [hji8] at A5)
  (try rw [hji8] at A6)
  by_cases c9 : 0 ≤ (ji8)
  ·rw [if_pos c9] at H
   have c9b0 := eq_true c9
   have c9b1 : decide (0 ≤ (ji8)) = true := decide_eq_true c9
   clear c9
   by_cases c10 : (ji8) ≤ (t106.length : Int)
   ·rw [if_pos c10] at H
    have c10b0 := eq_true c10
    have c10b1 : decide ((ji8) ≤ (t106.length : Int)) = true := decide_eq_true c10
    clear c10
    obtain ⟨y109, hy109⟩ : ∃ y_ : List (List (S41)), y_ = (t106.take ((ji8) : Int).toNat) := ⟨_, rfl⟩
    replace H : ((fuse_Of.f k (wrap64 (Int.tmod a2_0 64)) y109).bind fun bt114 => ((op_Out.f k bt114.1).bind fun t118 => ((fuse_Of.f k t118 (t106.drop ((ji8) : Int).toNat)).bind fun bt124 => ((through_Of.f k t103 t106).bind fun bt128 => ((through_Of.f k t103 (([bt114.1, bt124.1] : List (List (S41))))).bind fun bt135 => ((through_Patch.f k t103 t106).bind fun bt139 => ((through_Patch.f k t103 (([bt114.1, bt124.1] : List (List (S41))))).bind fun bt146 => (if t102 = true then (if bt114.2 = 0 then (if bt124.2 = 0 then (if bt128.2 = 0 then (if bt135.2 = 0 then (if bt139.2 = 0 then (if bt146.2 = 0 then ((epitomeref04_Same.f k bt128.1 bt135.1).bind fun t150 => (if t150 = true then ((epitomeref04_Same.f k bt139.1 bt146.1).bind fun t151 => (some t151)) else (some false))) else (some false)) else (some false)) else (some false)) else (some false)) else (some false)) else (some false)) else (some false))))))))) = some r := by first | (rw [hy109]; with_reducible exact H) | (have H2_ := (Option.bind_some _ _).symm.trans H; rw [hy109]; with_reducible exact H2_) | (have H2_ := (Option.bind_some _ _).symm.trans H; with_reducible exact H2_) | with_reducible exact H | (rw [hy109]; exact H) | exact H
    have Ny109 := Am hy109
    clear hy109
    replace H := Option.bind_eq_some_iff.mp H
    obtain ⟨⟨t114, t115⟩, A110, H⟩ := H
    have A11 := Am A110
    clear A110
    replace H := Option.bind_eq_some_iff.mp H
    obtain ⟨t118, A120, H⟩ := H
    have A12 := Am A120
    clear A120
    have c13b0 := eq_true (of_decide_eq_true (by first | (with_reducible assumption) | assumption) : 0 ≤ (ji8))
    have c14b0 := eq_true (of_decide_eq_true (by first | (with_reducible assumption) | assumption) : (ji8) ≤ (t106.length : Int))
    obtain ⟨y119, hy119⟩ : ∃ y_ : List (List (S41)), y_ = (t106.drop ((ji8) : Int).toNat) := ⟨_, rfl⟩
    replace H : ((fuse_Of.f k t118 y119).bind fun bt124 => ((through_Of.f k t103 t106).bind fun bt128 => ((through_Of.f k t103 (([t114, bt124.1] : List (List (S41))))).bind fun bt135 => ((through_Patch.f k t103 t106).bind fun bt139 => ((through_Patch.f k t103 (([t114, bt124.1] : List (List (S41))))).bind fun bt146 => (if t102 = true then (if t115 = 0 then (if bt124.2 = 0 then (if bt128.2 = 0 then (if bt135.2 = 0 then (if bt139.2 = 0 then (if bt146.2 = 0 then ((epitomeref04_Same.f k bt128.1 bt135.1).bind fun t150 => (if t150 = true then ((epitomeref04_Same.f k bt139.1 bt146.1).bind fun t151 => (some t151)) else (some false))) else (some false)) else (some false)) else (some false)) else (some false)) else (some false)) else (some false)) else (some false))))))) = some r := by first | (rw [hy119]; with_reducible exact H) | (have H2_ := (Option.bind_some _ _).symm.trans H; rw [hy119]; with_reducible exact H2_) | (have H2_ := (Option.bind_some _ _).symm.trans H; with_reducible exact H2_) | with_reducible exact H | (rw [hy119]; exact H) | exact H
    have Ny119 := Am hy119
    clear hy119
    replace H := Option.bind_eq_some_iff.mp H
    obtain ⟨⟨t124, t125⟩, A150, H⟩ := H
    have A15 := Am A150
    clear A150
    replace H := Option.bind_eq_some_iff.mp H
    obtain ⟨⟨t128, t129⟩, A160, H⟩ := H
    have A16 := Am A160
    clear A160
    obtain ⟨y132, hy132⟩ : ∃ y_ : List (List (S41)), y_ = (([t114, t124] : List (List (S41)))) := ⟨_, rfl⟩
    replace H : ((through_Of.f k t103 y132).bind fun bt135 => ((through_Patch.f k t103 t106).bind fun bt139 => ((through_Patch.f k t103 (([t114, t124] : List (List (S41))))).bind fun bt146 => (if t102 = true then (if t115 = 0 then (if t125 = 0 then (if t129 = 0 then (if bt135.2 = 0 then (if bt139.2 = 0 then (if bt146.2 = 0 then ((epitomeref04_Same.f k t128 bt135.1).bind fun t150 => (if t150 = true then ((epitomeref04_Same.f k bt139.1 bt146.1).bind fun t151 => (some t151)) else (some false))) else (some false)) else (some false)) else (some false)) else (some false)) else (some false)) else (some false)) else (some false))))) = some r := by first | (rw [hy132]; with_reducible exact H) | (have H2_ := (Option.bind_some _ _).symm.trans H; rw [hy132]; with_reducible exact H2_) | (have H2_ := (Option.bind_some _ _).symm.trans H; with_reducible exact H2_) | with_reducible exact H | (rw [hy132]; exact H) | exact H
    have Ny132 := Am hy132
    clear hy132
    replace H := Option.bind_eq_some_iff.mp H
    obtain ⟨⟨t135, t136⟩, A170, H⟩ := H
    have A17 := Am A170
    clear A170
    replace H := Option.bind_eq_some_iff.mp H
    obtain ⟨⟨t139, t140⟩, A180, H⟩ := H
    have A18 := Am A180
    clear A180
    obtain ⟨y143, hy143⟩ : ∃ y_ : List (List (S41)), y_ = (([t114, t124] : List (List (S41)))) := ⟨_, rfl⟩
    replace H : ((through_Patch.f k t103 y143).bind fun bt146 => (if t102 = true then (if t115 = 0 then (if t125 = 0 then (if t129 = 0 then (if t136 = 0 then (if t140 = 0 then (if bt146.2 = 0 then ((epitomeref04_Same.f k t128 t135).bind fun t150 => (if t150 = true then ((epitomeref04_Same.f k t139 bt146.1).bind fun t151 => (some t151)) else (some false))) else (some false)) else (some false)) else (some false)) else (some false)) else (some false)) else (some false)) else (some false))) = some r := by first | (rw [hy143]; with_reducible exact H) | (have H2_ := (Option.bind_some _ _).symm.trans H; rw [hy143]; with_reducible exact H2_) | (have H2_ := (Option.bind_some _ _).symm.trans H; with_reducible exact H2_) | with_reducible exact H | (rw [hy143]; exact H) | exact H
    have Ny143 := Am hy143
    clear hy143
    replace H := Option.bind_eq_some_iff.mp H
    obtain ⟨⟨t146, t147⟩, A190, H⟩ := H
    have A19 := Am A190
    clear A190
    by_cases c20 : t102 = true
    ·subst c20
     have H1 : (if t115 = 0 then (if t125 = 0 then (if t129 = 0 then (if t136 = 0 then (if t140 = 0 then (if t147 = 0 then ((epitomeref04_Same.f k t128 t135).bind fun t150 => (if t150 = true then ((epitomeref04_Same.f k t139 t146).bind fun t151 => (some t151)) else (some false))) else (some false)) else (some false)) else (some false)) else (some false)) else (some false)) else (some false)) = some r := by rw [if_pos rfl] at H; exact H
     clear H
     have H := H1
     clear H1
     by_cases c21 : t115 = 0
     ·rw [if_pos c21] at H
      have c21b0 : (t115 == 0) = true := beq_iff_eq.mpr c21
      have c21b1 : (t115 != 0) = false := bne_eq_false_iff_eq.mpr c21
      clear c21
      by_cases c22 : t125 = 0
      ·rw [if_pos c22] at H
       have c22b0 : (t125 == 0) = true := beq_iff_eq.mpr c22
       have c22b1 : (t125 != 0) = false := bne_eq_false_iff_eq.mpr c22
       clear c22
       by_cases c23 : t129 = 0
       ·rw [if_pos c23] at H
        have c23b0 : (t129 == 0) = true := beq_iff_eq.mpr c23
        have c23b1 : (t129 != 0) = false := bne_eq_false_iff_eq.mpr c23
        clear c23
        by_cases c24 : t136 = 0
        ·rw [if_pos c24] at H
         have c24b0 : (t136 == 0) = true := beq_iff_eq.mpr c24
         have c24b1 : (t136 != 0) = false := bne_eq_false_iff_eq.mpr c24
         clear c24
         by_cases c25 : t140 = 0
         ·rw [if_pos c25] at H
          have c25b0 : (t140 == 0) = true := beq_iff_eq.mpr c25
          have c25b1 : (t140 != 0) = false := bne_eq_false_iff_eq.mpr c25
          clear c25
          by_cases c26 : t147 = 0
          ·rw [if_pos c26] at H
           have c26b0 : (t147 == 0) = true := beq_iff_eq.mpr c26
           have c26b1 : (t147 != 0) = false := bne_eq_false_iff_eq.mpr c26
           clear c26
           replace H := Option.bind_eq_some_iff.mp H
           obtain ⟨t150, A270, H⟩ := H
           have A27 := Am A270
           clear A270
           by_cases c28 : t150 = true
           ·subst c28
            have H1 : ((epitomeref04_Same.f k t139 t146).bind fun t151 => (some t151)) = some r := by rw [if_pos rfl] at H; exact H
            clear H
            have H := H1
            clear H1
            replace H := Option.bind_eq_some_iff.mp H
            obtain ⟨t151, A290, H⟩ := H
            replace H : (some t151) = some r := H
            have A29 := Am A290
            clear A290
            obtain rfl := Option.some.inj H
            go_enter Tryd.func10, Tryd.ntmps10
            try go_wp2_with (first | ((with_reducible refine gate_dst (N := 5) rfl ?_); refine box_event ?hg (N := 5) ?hd (cs := #[.int .u8 a2_0, .int .u8 a2_1]) (t := 55) ?hr ?_; (case hd => rfl); (case hg => rfl); (case hr => first | (go_simp; done) | (go_simp; rfl)); intro gb101 hg w30 hbox hb; have n0_ := Am (below_step (by repeat (first | (with_reducible first | exact HB.out | apply zA.b | apply zA.w | apply zA.e) | exact HB.out)) hb); have n1_ := Am (hbox); have n2_ := Am ((by rw [hg]; exact (below_size (by repeat (first | (with_reducible first | exact HB.out | apply zA.b | apply zA.w | apply zA.e) | exact HB.out))) : w.heap.size ≤ gb101)); have n3_ := Am ((by rw [hg]; exact (below_size (by repeat (first | (with_reducible first | exact HB.out | apply zA.b | apply zA.w | apply zA.e) | exact HB.out))) : w.heap.size ≤ gb101)); clear HB; have HB := n0_; have BK101 := n1_; have GW101 := n2_; have GE101 := n3_; clear n0_ n1_ n2_ n3_; clear hb hbox hg) | ((with_reducible refine gate_callee (f := 32) rfl ?_); refine goesL_ (some 24) rfl rfl Tryd.func32 (by kernel_rfl) rfl #[] rfl (by (try simp only [List.map_toArray, List.map_cons, List.map_nil]); first | done | rfl) ?_; (with_reducible refine (epitomelaw13_shown.calls k  true ⟨rfl⟩ _ ?side1 A4.out).mono ?_); (case side1 => first | (with_reducible exact HG.out) | exact Glob.below HG.out (by repeat (first | (with_reducible first | exact HB.out | apply zA.b | apply zA.w | apply zA.e | refine zA.s ?_ GE101.out) | exact HB.out))); rintro e w31 ⟨rfl, hb⟩; refine ⟨_, rfl, ?_⟩; have n0_ := Am (blk_below (g := gb101) (o := .cells #[.int .u8 a2_0, .int .u8 a2_1] 55 (0, 0)) (by (with_reducible repeat (first | refine zA.f ?_ _ | refine zA.g ?_ | refine zA.h ?_ _)); exact BK101.out) hb); have n1_ := Am (below_step (by repeat (first | (with_reducible first | exact HB.out | apply zA.b | apply zA.w | apply zA.e | refine zA.s ?_ GE101.out) | exact HB.out)) hb); clear BK101; clear HB; have BK101 := n0_; have HB := n1_; clear n0_ n1_; (try clear hb); have hcz32_0 : w31.cell? ⟨gb101, 0, none⟩ = some (.int .u8 a2_0) := (blk_cell BK101.out 0).trans rfl; have hcz32_1 : w31.cell? ⟨gb101, 1, none⟩ = some (.int .u8 a2_1) := (blk_cell BK101.out 1).trans rfl; have hfz32_0 := blk_frozen BK101.out 0; have hfz32_1 := blk_frozen BK101.out 1) | ((with_reducible refine gate_callee (f := 27) rfl ?_); refine goesL_ (some 31) rfl rfl Tryd.func27 (by kernel_rfl) rfl #[.slice A0 l0.length c0, .int .i64 (wrap64 (Int.tmod a2_0 64))] rfl (by (try simp only [List.map_toArray, List.map_cons, List.map_nil]); first | done | rfl) ?_; (with_reducible refine (epitomeref04_Fit.calls k _ _ l0 (wrap64 (Int.tmod a2_0 64)) t103 _ ?side1 ?side2 A5.out).mono ?_); (case side1 => repeat (first | exact (C_below HR0.out HB.out) | (with_reducible refine C_alloc ?_ _) | (with_reducible refine C_drewN ?_ _) | (with_reducible refine C_drew ?_))); (case side2 => exact HC0.out); rintro e w33 ⟨v104, rfl, ho0, hb⟩; refine ⟨_, rfl, ?_⟩; have n0_ := Am (R_lower ho0 (below_size (by repeat (first | (with_reducible first | exact HB.out | apply zA.b | apply zA.w | apply zA.e | refine zA.s ?_ GE101.out) | exact HB.out)))); have n1_ := Am (blk_below (g := gb101) (o := .cells #[.int .u8 a2_0, .int .u8 a2_1] 55 (0, 0)) (by (with_reducible repeat (first | refine zA.f ?_ _ | refine zA.g ?_ | refine zA.h ?_ _)); exact BK101.out) hb); have n2_ := Am (below_step (by repeat (first | (with_reducible first | exact HB.out | apply zA.b | apply zA.w | apply zA.e | refine zA.s ?_ GE101.out) | exact HB.out)) hb); clear BK101; clear HB; have HO105 := n0_; have BK101 := n1_; have HB := n2_; clear n0_ n1_ n2_; (try clear hb); (try clear ho0)) | ((with_reducible refine gate_callee (f := 20) rfl ?_); refine goesL_ (some 34) rfl rfl Tryd.func20 (by kernel_rfl) rfl #[.slice A1 l1.length c1, .int .i64 (wrap64 (Int.tmod a2_0 64))] rfl (by (try simp only [List.map_toArray, List.map_cons, List.map_nil]); first | done | rfl) ?_; (with_reducible refine (epitomeref04_Chain.calls k _ _ l1 (wrap64 (Int.tmod a2_0 64)) t106 _ ?side1 ?side2 A6.out).mono ?_); (case side1 => repeat (first | exact (C_below HR1.out HB.out) | (with_reducible refine C_alloc ?_ _) | (with_reducible refine C_drewN ?_ _) | (with_reducible refine C_drew ?_))); (case side2 => exact HC1.out); rintro e w34 ⟨v107, rfl, ho0, hb⟩; refine ⟨_, rfl, ?_⟩; have n0_ := Am (R_below (by (with_reducible repeat (first | apply zA.a | apply zA.n | apply zA.d)); exact HO105.out) hb); have n1_ := Am (Kd.N_lower (Kd.N_mono (ok' := fun k_ => some k_ ≠ (v104 : Value).ownBlock ∧ k_ ≠ gb101) (Kd.S_N (Kd.S_bound ho0)) (fun k_ hk_ => ⟨(Kd.fresh' (R_lt (by (with_reducible repeat (first | apply zA.a | apply zA.n | apply zA.d)); exact HO105.out)) k_ hk_.2.1), (Kd.freshB (g := gb101) (o := .cells #[.int .u8 a2_0, .int .u8 a2_1] 55 (0, 0)) (by (with_reducible repeat (first | refine zA.f ?_ _ | refine zA.g ?_ | refine zA.h ?_ _)); exact BK101.out) k_ hk_.2.1)⟩)) (below_size (by repeat (first | (with_reducible first | exact HB.out | apply zA.b | apply zA.w | apply zA.e | refine zA.s ?_ GE101.out) | exact HB.out)))); have n2_ := Am (blk_below (g := gb101) (o := .cells #[.int .u8 a2_0, .int .u8 a2_1] 55 (0, 0)) (by (with_reducible repeat (first | refine zA.f ?_ _ | refine zA.g ?_ | refine zA.h ?_ _)); exact BK101.out) hb); have n3_ := Am (below_step (by repeat (first | (with_reducible first | exact HB.out | apply zA.b | apply zA.w | apply zA.e | refine zA.s ?_ GE101.out) | exact HB.out)) hb); clear HO105; clear BK101; clear HB; have HO105 := n0_; have HO108 := n1_; have BK101 := n2_; have HB := n3_; clear n0_ n1_ n2_ n3_; (try clear hb); (try clear ho0); have hcz35_0 : w34.cell? ⟨gb101, 0, none⟩ = some (.int .u8 a2_0) := (blk_cell BK101.out 0).trans rfl; have hcz35_1 : w34.cell? ⟨gb101, 1, none⟩ = some (.int .u8 a2_1) := (blk_cell BK101.out 1).trans rfl; have hfz35_0 := blk_frozen BK101.out 0; have hfz35_1 := blk_frozen BK101.out 1; obtain ⟨Ao36, co36, eo36⟩ := Kd.N_slice HO108.out; subst eo36; have q37 : ((ji8) : Int) ≤ ((t106.length : Int) : Int) := of_decide_eq_true (by first | (with_reducible assumption) | assumption); obtain ⟨i037, hi037, _, hsz37, _⟩ := info_parts info24; have hroom37 : t106.length ≤ co36 := (Kd.N_reads' HO108.out).2.1; have hC37 : Kd.F (Kd.slice 41 k41) _ _ Ao36 t106.length t106 := (Kd.V_at (base := w.heap.size) (Kd.N_V HO108.out)).2.2; have hcut37 := cut_to (P := Tryd.prog) 22 24 .i64 Tryd.underlying22 hi037 Ao36 t106.length co36 (ji8) (of_decide_eq_true (by first | (with_reducible assumption) | assumption)) q37 hroom37; have hr37 := Kd.F_take (m := ((ji8) : Int).toNat) hC37 (by omega); have hy37 : y109.length = ((ji8) : Int).toNat := (by rw [Ny109.out, List.length_take]; omega); rw [← Ny109.out] at hr37; rw [← hy37] at hcut37; have HO113 := Am (show Kd.V (Kd.slice 41 k41) 24 _ w.heap.size _ (.slice Ao36 y109.length co36) y109 from Kd.V_mk (by omega) hr37); have HC113 := Am (show y109.length ≤ co36 from by omega); clear hr37 hC37 hroom37 hi037 hsz37; have KY37 := Am hy37; clear hy37; replace q37 := eq_true q37) | ((with_reducible refine gate_callee (f := 15) rfl ?_); refine goesL_ (some 47) rfl rfl Tryd.func15 (by kernel_rfl) rfl #[.int .i64 (wrap64 (Int.tmod a2_0 64)), .slice Ao36 y109.length co36] rfl (by (try simp only [List.map_toArray, List.map_cons, List.map_nil]); first | done | rfl) ?_; (with_reducible refine (fuse_Of.calls k (wrap64 (Int.tmod a2_0 64)) _ _ y109 t114 t115 _ ?side1 ?side2 ?side3 A11.out).mono ?_); (case side1 => first | (with_reducible exact HG.out) | exact Glob.below HG.out (by repeat (first | (with_reducible first | exact HB.out | apply zA.b | apply zA.w | apply zA.e | refine zA.s ?_ GE101.out) | exact HB.out))); (case side2 => repeat (first | exact (Kd.V_reads' HO113.out).2.2 | (with_reducible refine C_alloc ?_ _) | (with_reducible refine C_drewN ?_ _) | (with_reducible refine C_drew ?_))); (case side3 => exact (Kd.V_reads' HO113.out).2.1); rintro e w38 ⟨v116, rfl, ho0, hb⟩; refine ⟨_, rfl, ?_⟩; have n0_ := Am (R_elder' (by (with_reducible repeat (first | apply zA.a | apply zA.n | apply zA.d)); exact HO105.out) (R_base ho0) hb); have n1_ := Am (Kd.N_elder' (by (with_reducible repeat (first | apply Kd.N_alloc | apply Kd.N_drewN | apply Kd.N_drew)); exact HO108.out) (R_base ho0) hb); have n2_ := Am (Kd.V_elder' (by (with_reducible repeat (first | apply Kd.V_alloc | apply Kd.V_drewN | apply Kd.V_drew)); exact HO113.out) (R_base ho0) hb); have n3_ := Am (R_lower (R_new' ho0 (R_lt (by (with_reducible repeat (first | apply zA.a | apply zA.n | apply zA.d)); exact HO105.out))) (below_size (by repeat (first | (with_reducible first | exact HB.out | apply zA.b | apply zA.w | apply zA.e | refine zA.s ?_ GE101.out) | exact HB.out)))); have n4_ := Am (blk_below (g := gb101) (o := .cells #[.int .u8 a2_0, .int .u8 a2_1] 55 (0, 0)) (by (with_reducible repeat (first | refine zA.f ?_ _ | refine zA.g ?_ | refine zA.h ?_ _)); exact BK101.out) hb); have n5_ := Am (below_step (by repeat (first | (with_reducible first | exact HB.out | apply zA.b | apply zA.w | apply zA.e | refine zA.s ?_ GE101.out) | exact HB.out)) hb); clear HO105; clear HO108; clear HO113; clear BK101; clear HB; have HO105 := n0_; have HO108 := n1_; have HO113 := n2_; have HO117 := n3_; have BK101 := n4_; have HB := n5_; clear n0_ n1_ n2_ n3_ n4_ n5_; (try clear hb); (try clear ho0)))
            have n0_ := Am (R_drew HO105.out)
            have n1_ := Am (Kd.N_drew HO108.out)
            have n2_ := Am (Kd.V_drew HO113.out)
            have n3_ := Am (R_drew HO117.out)
            have n4_ := Am (blk_drew BK101.out)
            have n5_ := Am (below_drew1 HB.out)
            clear HO105
            clear HO108
            clear HO113
            clear HO117
            clear BK101
            clear HB
            have HO105 := n0_
            have HO108 := n1_
            have HO113 := n2_
            have HO117 := n3_
            have BK101 := n4_
            have HB := n5_
            clear n0_ n1_ n2_ n3_ n4_ n5_
            have q40 : ((ji8) : Int) ≤ ((t106.length : Int) : Int) := of_decide_eq_true (by first | (with_reducible assumption) | assumption)
            obtain ⟨i040, hi040, _, hsz40, _⟩ := info_parts info24
            have hroom40 : t106.length ≤ co36 := (Kd.N_reads' HO108.out).2.1
            have hC40 : Kd.F (Kd.slice 41 k41) _ _ Ao36 t106.length t106 := (Kd.V_at (base := w.heap.size) (Kd.N_V HO108.out)).2.2
            have q040 : (0 : Int) ≤ ((ji8) : Int) := of_decide_eq_true (by first | (with_reducible assumption) | assumption)
            have hcut40 := cut_from (P := Tryd.prog) 22 24 .i64 Tryd.underlying22 hi040 1 hsz40 Ao36 t106.length co36 (ji8) q040 q40
            have hr40 := Kd.F_cut (m := ((ji8) : Int).toNat) (c := co36) hC40 (by omega) hroom40
            obtain ⟨A40, hA40⟩ : ∃ A1, A1 = (if co36 = ((ji8) : Int).toNat then Ao36 else (Ao36 : Option Addr).map (·.add (((ji8) : Int).toNat * 1))) := ⟨_, rfl⟩
            obtain ⟨c40, hc40⟩ : ∃ c1, c1 = co36 - ((ji8) : Int).toNat := ⟨_, rfl⟩
            have hy40 : y119.length = t106.length - ((ji8) : Int).toNat := (by rw [Ny119.out, List.length_drop] <;> omega)
            rw [show (t106).drop ((ji8) : Int).toNat = y119 from Ny119.out.symm] at hr40
            replace hr40 : Kd.F (Kd.slice 41 k41) _ _ A40 y119.length y119 := (by rw [hA40]; exact hr40)
            rw [← hy40, ← hA40, ← hc40] at hcut40
            have HO123 := Am (show Kd.V (Kd.slice 41 k41) 24 _ w.heap.size _ (.slice A40 y119.length c40) y119 from Kd.V_mk (by rw [hy40, hc40]; exact Nat.sub_le_sub_right hroom40 _) hr40)
            have HC123 := Am (show y119.length ≤ c40 from by rw [hy40, hc40]; exact Nat.sub_le_sub_right hroom40 _)
            clear hr40 hC40 hroom40 hi040 hsz40 hc40
            have KY40 := Am hy40
            have KA40 := Am hA40
            clear hy40 hA40
            replace q40 := eq_true q40
            obtain ⟨Ao41, co41, eo41⟩ := R_slice HO117.out
            (first | subst eo41 | (injection eo41 with f1_ f2_ f3_; have f4_ := f1_.symm; have f5_ := f3_.symm; clear f1_ f2_ f3_; subst f4_; subst f5_))
            refine start_ (n := 11) (S := fun w' => True) (ds := []) #[false, false, false, false, false, false, false, false, false, false, false] (by kernel_rfl) rfl rfl trivial (fun hHeld => ?_); refine with_tabW epitomelaw13_ThroughParts.tab7 epitomelaw13_ThroughParts.bits7 (fun HT_ HW_ => ?_)
            generalize w38.drew = w39 at HO105 HO108 HO113 HO117 BK101 HB HO123 hHeld ⊢
            refine pure_ (i := 0) (N := some 51) (v := ?_) (a' := ?_) #[true, false, false, false, false, false, false, false, false, false, false] rfl rfl (any_of HT_.out (by kernel_rfl)) (fun _ _ _ h => h) (Or.inl ⟨by rfl, ?_⟩) ?_ ?_
            rotate_left
            ·intro w'
             go_simp
             with_reducible rfl
            rotate_left
            ·simp only [Act.put, List.setIfInBounds_toArray, List.set_cons_zero, List.set_cons_succ, i64_w, i32_w]
             rfl
            refine pure_ (i := 2) (N := some 53) (v := ?_) (a' := ?_) #[true, false, true, false, false, false, false, false, false, false, false] rfl rfl (any_of HT_.out (by kernel_rfl)) (fun _ _ _ h => h) (Or.inl ⟨by rfl, ?_⟩) ?_ ?_
            rotate_left
            ·intro w'
             go_simp
             with_reducible rfl
            rotate_left
            ·simp only [Act.put, List.setIfInBounds_toArray, List.set_cons_zero, List.set_cons_succ, i64_w, i32_w]
             rfl
            refine pure_ (i := 3) (N := some 54) (v := ?_) (a' := ?_) #[true, false, true, true, false, false, false, false, false, false, false] rfl rfl (any_of HT_.out (by kernel_rfl)) (fun _ _ _ h => h) (Or.inl ⟨by rfl, ?_⟩) ?_ ?_
            rotate_left
            ·intro w'
             go_simp
             with_reducible rfl
            rotate_left
            ·simp only [Act.put, List.setIfInBounds_toArray, List.set_cons_zero, List.set_cons_succ, i64_w, i32_w]
             rfl
            refine pure_ (i := 4) (N := some 55) (v := ?_) (a' := ?_) #[true, false, true, true, true, false, false, false, false, false, false] rfl rfl (any_of HT_.out (by kernel_rfl)) (fun _ _ _ h => h) (Or.inl ⟨by rfl, ?_⟩) ?_ ?_
            rotate_left
            ·intro w'
             go_simp
             with_reducible rfl
            rotate_left
            ·simp only [Act.put, List.setIfInBounds_toArray, List.set_cons_zero, List.set_cons_succ, i64_w, i32_w]
             rfl
            refine one_ (i := 1) (N := some 52) #[true, true, true, true, true, false, false, false, false, false, false] rfl rfl (one_of HT_.out (by kernel_rfl)) (by decide) (fun K hK => ?_)
            refine goes_ Tryd.func22 (by kernel_rfl) rfl #[.slice Ao41 t114.length co41] (by rfl) rfl rfl (by (try simp only [List.map_toArray, List.map_cons, List.map_nil]); first | done | rfl) ?_
            with_reducible refine (op_Out.calls k _ _ t114 t118 _ ?side1 ?side2 ?side3 A12.out).mono ?_
            (case side1 => first | (with_reducible exact HG.out) | exact Glob.below HG.out (by repeat (first | (with_reducible first | exact HB.out | apply zA.b | apply zA.w | apply zA.e | refine zA.s ?_ GE101.out) | exact HB.out)))
            (case side2 => repeat (first | exact (R_reads' HO117.out).2.2 | (with_reducible refine C_alloc ?_ _) | (with_reducible refine C_drewN ?_ _) | (with_reducible refine C_drew ?_)))
            (case side3 => exact (R_reads' HO117.out).2.1)
            rintro e w42 ⟨rfl, hb⟩
            refine ⟨_, rfl, ?_⟩
            have n0_ := Am (R_below (by (with_reducible repeat (first | apply zA.a | apply zA.n | apply zA.d)); exact HO105.out) hb)
            have n1_ := Am (Kd.N_below (by (with_reducible repeat (first | apply Kd.N_alloc | apply Kd.N_drewN | apply Kd.N_drew)); exact HO108.out) hb)
            have n2_ := Am (Kd.V_below (by (with_reducible repeat (first | apply Kd.V_alloc | apply Kd.V_drewN | apply Kd.V_drew)); exact HO113.out) hb)
            have n3_ := Am (R_below (by (with_reducible repeat (first | apply zA.a | apply zA.n | apply zA.d)); exact HO117.out) hb)
            have n4_ := Am (Kd.V_below (by (with_reducible repeat (first | apply Kd.V_alloc | apply Kd.V_drewN | apply Kd.V_drew)); exact HO123.out) hb)
            have n5_ := Am (blk_below (g := gb101) (o := .cells #[.int .u8 a2_0, .int .u8 a2_1] 55 (0, 0)) (by (with_reducible repeat (first | refine zA.f ?_ _ | refine zA.g ?_ | refine zA.h ?_ _)); exact BK101.out) hb)
            have n6_ := Am (below_step (by repeat (first | (with_reducible first | exact HB.out | apply zA.b | apply zA.w | apply zA.e | refine zA.s ?_ GE101.out) | exact HB.out)) hb)
            clear HO105
            clear HO108
            clear HO113
            clear HO117
            clear HO123
            clear BK101
            clear HB
            have HO105 := n0_
            have HO108 := n1_
            have HO113 := n2_
            have HO117 := n3_
            have HO123 := n4_
            have BK101 := n5_
            have HB := n6_
            clear n0_ n1_ n2_ n3_ n4_ n5_ n6_
            (try clear hb)
            (try clear hb2)
            (try clear hk)
            (try clear hi)
            refine hK.out _ _ trivial (fun hHeld => ?_)
            clear hK K
            refine norm_ (a' := ?_) ?_ ?_
            rotate_left
            ·show Act.put _ (some 52) _ = _
             simp only [Act.put, List.setIfInBounds_toArray, List.set_cons_zero, List.set_cons_succ, i64_w, i32_w]
             rfl
            refine one_ (i := 5) (N := some 56) #[true, true, true, true, true, true, false, false, false, false, false] rfl rfl (one_of HT_.out (by kernel_rfl)) (by decide) (fun K hK => ?_)
            refine goes_ Tryd.func15 (by kernel_rfl) rfl #[.int .i64 t118, .slice A40 y119.length c40] (by rfl) rfl rfl (by (try simp only [List.map_toArray, List.map_cons, List.map_nil]); first | done | rfl) ?_
            with_reducible refine (fuse_Of.calls k t118 _ _ y119 t124 t125 _ ?side1 ?side2 ?side3 A15.out).mono ?_
            (case side1 => first | (with_reducible exact HG.out) | exact Glob.below HG.out (by repeat (first | (with_reducible first | exact HB.out | apply zA.b | apply zA.w | apply zA.e | refine zA.s ?_ GE101.out) | exact HB.out)))
            (case side2 => repeat (first | exact (Kd.V_reads' HO123.out).2.2 | (with_reducible refine C_alloc ?_ _) | (with_reducible refine C_drewN ?_ _) | (with_reducible refine C_drew ?_)))
            (case side3 => exact (Kd.V_reads' HO123.out).2.1)
            rintro e w43 ⟨v126, rfl, ho0, hb⟩
            refine ⟨_, rfl, ?_⟩
            have n0_ := Am (R_elder' (by (with_reducible repeat (first | apply zA.a | apply zA.n | apply zA.d)); exact HO105.out) (R_base ho0) hb)
            have n1_ := Am (Kd.N_elder' (by (with_reducible repeat (first | apply Kd.N_alloc | apply Kd.N_drewN | apply Kd.N_drew)); exact HO108.out) (R_base ho0) hb)
            have n2_ := Am (Kd.V_elder' (by (with_reducible repeat (first | apply Kd.V_alloc | apply Kd.V_drewN | apply Kd.V_drew)); exact HO113.out) (R_base ho0) hb)
            have n3_ := Am (R_elder' (by (with_reducible repeat (first | apply zA.a | apply zA.n | apply zA.d)); exact HO117.out) (R_base ho0) hb)
            have n4_ := Am (Kd.V_elder' (by (with_reducible repeat (first | apply Kd.V_alloc | apply Kd.V_drewN | apply Kd.V_drew)); exact HO123.out) (R_base ho0) hb)
            have n5_ := Am (R_lower (R_new' (R_new' ho0 (R_lt (by (with_reducible repeat (first | apply zA.a | apply zA.n | apply zA.d)); exact HO105.out))) (R_lt (by (with_reducible repeat (first | apply zA.a | apply zA.n | apply zA.d)); exact HO117.out))) (below_size (by repeat (first | (with_reducible first | exact HB.out | apply zA.b | apply zA.w | apply zA.e | refine zA.s ?_ GE101.out) | exact HB.out))))
            have n6_ := Am (blk_below (g := gb101) (o := .cells #[.int .u8 a2_0, .int .u8 a2_1] 55 (0, 0)) (by (with_reducible repeat (first | refine zA.f ?_ _ | refine zA.g ?_ | refine zA.h ?_ _)); exact BK101.out) hb)
            have n7_ := Am (below_step (by repeat (first | (with_reducible first | exact HB.out | apply zA.b | apply zA.w | apply zA.e | refine zA.s ?_ GE101.out) | exact HB.out)) hb)
            clear HO105
            clear HO108
            clear HO113
            clear HO117
            clear HO123
            clear BK101
            clear HB
            have HO105 := n0_
            have HO108 := n1_
            have HO113 := n2_
            have HO117 := n3_
            have HO123 := n4_
            have HO127 := n5_
            have BK101 := n6_
            have HB := n7_
            clear n0_ n1_ n2_ n3_ n4_ n5_ n6_ n7_
            (try clear hb)
            (try clear hb2)
            (try clear hk)
            (try clear hi)
            (try clear ho0)
            refine hK.out _ _ trivial (fun hHeld => ?_)
            clear hK K
            refine norm_ (a' := ?_) ?_ ?_
            rotate_left
            ·show Act.put _ (some 56) _ = _
             simp only [Act.put, List.setIfInBounds_toArray, List.set_cons_zero, List.set_cons_succ, i64_w, i32_w]
             rfl
            refine pure_ (i := 6) (N := some 50) (v := ?_) (a' := ?_) #[true, true, true, true, true, true, true, false, false, false, false] rfl rfl (any_of HT_.out (by kernel_rfl)) (fun _ _ _ h => h) (Or.inl ⟨by rfl, ?_⟩) ?_ ?_
            rotate_left
            ·intro w'
             go_simp
             with_reducible rfl
            rotate_left
            ·simp only [Act.put, List.setIfInBounds_toArray, List.set_cons_zero, List.set_cons_succ, i64_w, i32_w]
             rfl
            refine pure_ (i := 7) (N := some 57) (v := ?_) (a' := ?_) #[true, true, true, true, true, true, true, true, false, false, false] rfl rfl (any_of HT_.out (by kernel_rfl)) (fun _ _ _ h => h) (Or.inl ⟨by rfl, ?_⟩) ?_ ?_
            rotate_left
            ·intro w'
             go_simp
             with_reducible rfl
            rotate_left
            ·simp only [Act.put, List.setIfInBounds_toArray, List.set_cons_zero, List.set_cons_succ, i64_w, i32_w]
             rfl
            refine pure_ (i := 8) (N := some 58) (v := ?_) (a' := ?_) #[true, true, true, true, true, true, true, true, true, false, false] rfl rfl (any_of HT_.out (by kernel_rfl)) (fun _ _ _ h => h) (Or.inl ⟨by rfl, ?_⟩) ?_ ?_
            rotate_left
            ·intro w'
             go_simp
             with_reducible rfl
            rotate_left
            ·simp only [Act.put, List.setIfInBounds_toArray, List.set_cons_zero, List.set_cons_succ, i64_w, i32_w]
             rfl
            refine pure_ (i := 9) (N := some 14) (v := ?_) (a' := ?_) #[true, true, true, true, true, true, true, true, true, true, false] rfl rfl (any_of HT_.out (by kernel_rfl)) (fun _ _ _ h => h) (Or.inl ⟨by rfl, ?_⟩) ?_ ?_
            rotate_left
            ·intro w'
             go_simp
             with_reducible rfl
            rotate_left
            ·simp only [Act.put, List.setIfInBounds_toArray, List.set_cons_zero, List.set_cons_succ, i64_w, i32_w]
             rfl
            refine pure_ (i := 10) (N := some 15) (v := ?_) (a' := ?_) #[true, true, true, true, true, true, true, true, true, true, true] rfl rfl (any_of HT_.out (by kernel_rfl)) (fun _ _ _ h => h) (Or.inl ⟨by rfl, ?_⟩) ?_ ?_
            rotate_left
            ·intro w'
             go_simp
             with_reducible rfl
            rotate_left
            ·simp only [Act.put, List.setIfInBounds_toArray, List.set_cons_zero, List.set_cons_succ, i64_w, i32_w]
             rfl
            refine done_ (done_of HT_.out (by kernel_rfl)) ?_
            obtain ⟨Ao44, co44, eo44⟩ := R_slice HO105.out
            subst eo44
            try go_wp2_with (first | ((with_reducible refine gate_callee (f := 33) rfl ?_); refine goesL_ (some 62) rfl rfl Tryd.func33 (by kernel_rfl) rfl #[.slice Ao44 t103.length co44, .slice Ao36 t106.length co36] rfl (by (try simp only [List.map_toArray, List.map_cons, List.map_nil]); first | done | rfl) ?_; (with_reducible refine (through_Of.calls k _ _ t103 _ _ t106 t128 t129 _ ?side1 ?side2 ?side3 ?side4 ?side5 A16.out).mono ?_); (case side1 => first | (with_reducible exact HG.out) | exact Glob.below HG.out (by repeat (first | (with_reducible first | exact HB.out | apply zA.b | apply zA.w | apply zA.e | refine zA.s ?_ GE101.out) | exact HB.out))); (case side2 => repeat (first | exact (R_reads' HO105.out).2.2 | (with_reducible refine C_alloc ?_ _) | (with_reducible refine C_drewN ?_ _) | (with_reducible refine C_drew ?_))); (case side3 => exact (R_reads' HO105.out).2.1); (case side4 => repeat (first | exact (Kd.N_reads' HO108.out).2.2 | (with_reducible refine C_alloc ?_ _) | (with_reducible refine C_drewN ?_ _) | (with_reducible refine C_drew ?_))); (case side5 => exact (Kd.N_reads' HO108.out).2.1); rintro e w45 ⟨v130, rfl, ho0, hb⟩; refine ⟨_, rfl, ?_⟩; have n0_ := Am (R_elder' (by (with_reducible repeat (first | apply zA.a | apply zA.n | apply zA.d)); exact HO105.out) (R_base ho0) hb); have n1_ := Am (Kd.N_elder' (by (with_reducible repeat (first | apply Kd.N_alloc | apply Kd.N_drewN | apply Kd.N_drew)); exact HO108.out) (R_base ho0) hb); have n2_ := Am (Kd.V_elder' (by (with_reducible repeat (first | apply Kd.V_alloc | apply Kd.V_drewN | apply Kd.V_drew)); exact HO113.out) (R_base ho0) hb); have n3_ := Am (R_elder' (by (with_reducible repeat (first | apply zA.a | apply zA.n | apply zA.d)); exact HO117.out) (R_base ho0) hb); have n4_ := Am (Kd.V_elder' (by (with_reducible repeat (first | apply Kd.V_alloc | apply Kd.V_drewN | apply Kd.V_drew)); exact HO123.out) (R_base ho0) hb); have n5_ := Am (R_elder' (by (with_reducible repeat (first | apply zA.a | apply zA.n | apply zA.d)); exact HO127.out) (R_base ho0) hb); have n6_ := Am (R_lower (R_new' (R_new' (R_new' ho0 (R_lt (by (with_reducible repeat (first | apply zA.a | apply zA.n | apply zA.d)); exact HO105.out))) (R_lt (by (with_reducible repeat (first | apply zA.a | apply zA.n | apply zA.d)); exact HO117.out))) (R_lt (by (with_reducible repeat (first | apply zA.a | apply zA.n | apply zA.d)); exact HO127.out))) (below_size (by repeat (first | (with_reducible first | exact HB.out | apply zA.b | apply zA.w | apply zA.e | refine zA.s ?_ GE101.out) | exact HB.out)))); have n7_ := Am (blk_below (g := gb101) (o := .cells #[.int .u8 a2_0, .int .u8 a2_1] 55 (0, 0)) (by (with_reducible repeat (first | refine zA.f ?_ _ | refine zA.g ?_ | refine zA.h ?_ _)); exact BK101.out) hb); have n8_ := Am (below_step (by repeat (first | (with_reducible first | exact HB.out | apply zA.b | apply zA.w | apply zA.e | refine zA.s ?_ GE101.out) | exact HB.out)) hb); clear HO105; clear HO108; clear HO113; clear HO117; clear HO123; clear HO127; clear BK101; clear HB; have HO105 := n0_; have HO108 := n1_; have HO113 := n2_; have HO117 := n3_; have HO123 := n4_; have HO127 := n5_; have HO131 := n6_; have BK101 := n7_; have HB := n8_; clear n0_ n1_ n2_ n3_ n4_ n5_ n6_ n7_ n8_; (try clear hb); (try clear ho0); obtain ⟨Ao46, co46, eo46⟩ := R_slice HO127.out; subst eo46; (try clear A16)) | ((with_reducible refine gate_dst (N := 69) rfl ?_); refine Kd.N_lit (Kd.slice 41 k41) _ 24 ?hg (N' := 69) ?hd (xs := ([t114, t124] : List (List (S41)))) (inner := [.slice Ao41 t114.length co41, .slice Ao46 t124.length co46]) (ok := (fun k_ => some k_ ≠ (.slice Ao44 t103.length co44 : Value).ownBlock ∧ some k_ ≠ (.slice Ao36 t106.length co36 : Value).ownBlock ∧ some k_ ≠ (v130 : Value).ownBlock ∧ k_ ≠ gb101)) (okp := (fun k_ => some k_ ≠ (.slice Ao44 t103.length co44 : Value).ownBlock ∧ some k_ ≠ (.slice Ao36 t106.length co36 : Value).ownBlock ∧ some k_ ≠ (v130 : Value).ownBlock ∧ k_ ≠ gb101)) ?hr ?hp (fun _ hk => hk) ((show ∀ k_, w45.heap.size ≤ k_ → (fun k_ => some k_ ≠ (.slice Ao44 t103.length co44 : Value).ownBlock ∧ some k_ ≠ (.slice Ao36 t106.length co36 : Value).ownBlock ∧ some k_ ≠ (v130 : Value).ownBlock ∧ k_ ≠ gb101) k_ from fun k_ hk => ⟨Kd.fresh' (R_lt (by (with_reducible repeat (first | apply zA.a | apply zA.n | apply zA.d)); exact HO105.out)) k_ hk, Kd.fresh' (Kd.N_lt (by (with_reducible repeat (first | apply Kd.N_alloc | apply Kd.N_drewN | apply Kd.N_drew)); exact HO108.out)) k_ hk, Kd.fresh' (R_lt (by (with_reducible repeat (first | apply zA.a | apply zA.n | apply zA.d)); exact HO131.out)) k_ hk, Kd.freshB (g := gb101) (o := .cells #[.int .u8 a2_0, .int .u8 a2_1] 55 (0, 0)) (by (with_reducible repeat (first | refine zA.f ?_ _ | refine zA.g ?_ | refine zA.h ?_ _)); exact BK101.out) k_ hk⟩) _ (Nat.le_refl _)) (Below.refl _ _) (Nat.le_refl _) (by simp) ?_; (case hd => rfl); (case hg => rfl); (case hr => first | (go_simp; done) | (go_simp; rfl)); (case hp => exact (Reps.one (show Kd.FK (Kd.slice 41 k41) _ _ t114 [.slice Ao41 t114.length co41] from (Kd.FK_slice_mk (R_reads' (R_mono (ok' := (fun k_ => some k_ ≠ (.slice Ao44 t103.length co44 : Value).ownBlock ∧ some k_ ≠ (.slice Ao36 t106.length co36 : Value).ownBlock ∧ some k_ ≠ (v130 : Value).ownBlock ∧ k_ ≠ gb101)) (R_types (R_apart' (HO117.out) (Kd.N_typed HO108.out) (by decide)) BK101.out (by decide)) (fun k_ hk => ⟨hk.1.1.1.1.2, ⟨hk.1.2, ⟨hk.1.1.2, hk.2⟩⟩⟩))).2.1 (R_F (R_mono (ok' := (fun k_ => some k_ ≠ (.slice Ao44 t103.length co44 : Value).ownBlock ∧ some k_ ≠ (.slice Ao36 t106.length co36 : Value).ownBlock ∧ some k_ ≠ (v130 : Value).ownBlock ∧ k_ ≠ gb101)) (R_types (R_apart' (HO117.out) (Kd.N_typed HO108.out) (by decide)) BK101.out (by decide)) (fun k_ hk => ⟨hk.1.1.1.1.2, ⟨hk.1.2, ⟨hk.1.1.2, hk.2⟩⟩⟩))))) (Reps.one (show Kd.FK (Kd.slice 41 k41) _ _ t124 [.slice Ao46 t124.length co46] from (Kd.FK_slice_mk (R_reads' (R_mono (ok' := (fun k_ => some k_ ≠ (.slice Ao44 t103.length co44 : Value).ownBlock ∧ some k_ ≠ (.slice Ao36 t106.length co36 : Value).ownBlock ∧ some k_ ≠ (v130 : Value).ownBlock ∧ k_ ≠ gb101)) (R_types (R_apart' (HO127.out) (Kd.N_typed HO108.out) (by decide)) BK101.out (by decide)) (fun k_ hk => ⟨hk.1.1.1.1.2, ⟨hk.1.2, ⟨hk.1.1.2, hk.2⟩⟩⟩))).2.1 (R_F (R_mono (ok' := (fun k_ => some k_ ≠ (.slice Ao44 t103.length co44 : Value).ownBlock ∧ some k_ ≠ (.slice Ao36 t106.length co36 : Value).ownBlock ∧ some k_ ≠ (v130 : Value).ownBlock ∧ k_ ≠ gb101)) (R_types (R_apart' (HO127.out) (Kd.N_typed HO108.out) (by decide)) BK101.out (by decide)) (fun k_ hk => ⟨hk.1.1.1.1.2, ⟨hk.1.2, ⟨hk.1.1.2, hk.2⟩⟩⟩))))) (Reps.none _ _)))); intro v133 w47 ho48 hb hg_ hnew_; clear hg_ hnew_; (first | rw [← Ny132.out] at ho48 | (simp only [Int.reduceToNat] at ho48; rw [← Ny132.out] at ho48)); have n0_ := Am (R_below (by (with_reducible repeat (first | apply zA.a | apply zA.n | apply zA.d)); exact HO105.out) hb); have n1_ := Am (Kd.N_elder' (by (with_reducible repeat (first | apply Kd.N_alloc | apply Kd.N_drewN | apply Kd.N_drew)); exact HO108.out) (Kd.N_base ho48) hb); have n2_ := Am (Kd.V_elder' (by (with_reducible repeat (first | apply Kd.V_alloc | apply Kd.V_drewN | apply Kd.V_drew)); exact HO113.out) (Kd.N_base ho48) hb); have n3_ := Am (R_below (by (with_reducible repeat (first | apply zA.a | apply zA.n | apply zA.d)); exact HO117.out) hb); have n4_ := Am (Kd.V_elder' (by (with_reducible repeat (first | apply Kd.V_alloc | apply Kd.V_drewN | apply Kd.V_drew)); exact HO123.out) (Kd.N_base ho48) hb); have n5_ := Am (R_below (by (with_reducible repeat (first | apply zA.a | apply zA.n | apply zA.d)); exact HO127.out) hb); have n6_ := Am (R_below (by (with_reducible repeat (first | apply zA.a | apply zA.n | apply zA.d)); exact HO131.out) hb); have n7_ := Am (Kd.N_lower ho48 (below_size (by repeat (first | (with_reducible first | exact HB.out | apply zA.b | apply zA.w | apply zA.e | refine zA.s ?_ GE101.out) | exact HB.out)))); have n8_ := Am (blk_below (g := gb101) (o := .cells #[.int .u8 a2_0, .int .u8 a2_1] 55 (0, 0)) (by (with_reducible repeat (first | refine zA.f ?_ _ | refine zA.g ?_ | refine zA.h ?_ _)); exact BK101.out) hb); have n9_ := Am (below_step (by repeat (first | (with_reducible first | exact HB.out | apply zA.b | apply zA.w | apply zA.e | refine zA.s ?_ GE101.out) | exact HB.out)) hb); clear HO105; clear HO108; clear HO113; clear HO117; clear HO123; clear HO127; clear HO131; clear BK101; clear HB; have HO105 := n0_; have HO108 := n1_; have HO113 := n2_; have HO117 := n3_; have HO123 := n4_; have HO127 := n5_; have HO131 := n6_; have HO134 := n7_; have BK101 := n8_; have HB := n9_; clear n0_ n1_ n2_ n3_ n4_ n5_ n6_ n7_ n8_ n9_; clear hb ho48; obtain ⟨Ao49, co49, eo49⟩ := Kd.N_slice HO134.out; subst eo49) | ((with_reducible refine gate_callee (f := 33) rfl ?_); refine goesL_ (some 70) rfl rfl Tryd.func33 (by kernel_rfl) rfl #[.slice Ao44 t103.length co44, .slice Ao49 y132.length co49] rfl (by (try simp only [List.map_toArray, List.map_cons, List.map_nil]); first | done | rfl) ?_; (with_reducible refine (through_Of.calls k _ _ t103 _ _ y132 t135 t136 _ ?side1 ?side2 ?side3 ?side4 ?side5 A17.out).mono ?_); (case side1 => first | (with_reducible exact HG.out) | exact Glob.below HG.out (by repeat (first | (with_reducible first | exact HB.out | apply zA.b | apply zA.w | apply zA.e | refine zA.s ?_ GE101.out) | exact HB.out))); (case side2 => repeat (first | exact (R_reads' HO105.out).2.2 | (with_reducible refine C_alloc ?_ _) | (with_reducible refine C_drewN ?_ _) | (with_reducible refine C_drew ?_))); (case side3 => exact (R_reads' HO105.out).2.1); (case side4 => repeat (first | exact (Kd.N_reads' HO134.out).2.2 | (with_reducible refine C_alloc ?_ _) | (with_reducible refine C_drewN ?_ _) | (with_reducible refine C_drew ?_))); (case side5 => exact (Kd.N_reads' HO134.out).2.1); rintro e w50 ⟨v137, rfl, ho0, hb⟩; refine ⟨_, rfl, ?_⟩; have n0_ := Am (R_elder' (by (with_reducible repeat (first | apply zA.a | apply zA.n | apply zA.d)); exact HO105.out) (R_base ho0) hb); have n1_ := Am (Kd.N_elder' (by (with_reducible repeat (first | apply Kd.N_alloc | apply Kd.N_drewN | apply Kd.N_drew)); exact HO108.out) (R_base ho0) hb); have n2_ := Am (Kd.V_elder' (by (with_reducible repeat (first | apply Kd.V_alloc | apply Kd.V_drewN | apply Kd.V_drew)); exact HO113.out) (R_base ho0) hb); have n3_ := Am (R_elder' (by (with_reducible repeat (first | apply zA.a | apply zA.n | apply zA.d)); exact HO117.out) (R_base ho0) hb); have n4_ := Am (Kd.V_elder' (by (with_reducible repeat (first | apply Kd.V_alloc | apply Kd.V_drewN | apply Kd.V_drew)); exact HO123.out) (R_base ho0) hb); have n5_ := Am (R_elder' (by (with_reducible repeat (first | apply zA.a | apply zA.n | apply zA.d)); exact HO127.out) (R_base ho0) hb); have n6_ := Am (R_elder' (by (with_reducible repeat (first | apply zA.a | apply zA.n | apply zA.d)); exact HO131.out) (R_base ho0) hb); have n7_ := Am (Kd.N_elder' (by (with_reducible repeat (first | apply Kd.N_alloc | apply Kd.N_drewN | apply Kd.N_drew)); exact HO134.out) (R_base ho0) hb); have n8_ := Am (R_lower (R_new' (R_new' (R_new' (R_new' ho0 (R_lt (by (with_reducible repeat (first | apply zA.a | apply zA.n | apply zA.d)); exact HO105.out))) (R_lt (by (with_reducible repeat (first | apply zA.a | apply zA.n | apply zA.d)); exact HO117.out))) (R_lt (by (with_reducible repeat (first | apply zA.a | apply zA.n | apply zA.d)); exact HO127.out))) (R_lt (by (with_reducible repeat (first | apply zA.a | apply zA.n | apply zA.d)); exact HO131.out))) (below_size (by repeat (first | (with_reducible first | exact HB.out | apply zA.b | apply zA.w | apply zA.e | refine zA.s ?_ GE101.out) | exact HB.out)))); have n9_ := Am (blk_below (g := gb101) (o := .cells #[.int .u8 a2_0, .int .u8 a2_1] 55 (0, 0)) (by (with_reducible repeat (first | refine zA.f ?_ _ | refine zA.g ?_ | refine zA.h ?_ _)); exact BK101.out) hb); have n10_ := Am (below_step (by repeat (first | (with_reducible first | exact HB.out | apply zA.b | apply zA.w | apply zA.e | refine zA.s ?_ GE101.out) | exact HB.out)) hb); clear HO105; clear HO108; clear HO113; clear HO117; clear HO123; clear HO127; clear HO131; clear HO134; clear BK101; clear HB; have HO105 := n0_; have HO108 := n1_; have HO113 := n2_; have HO117 := n3_; have HO123 := n4_; have HO127 := n5_; have HO131 := n6_; have HO134 := n7_; have HO138 := n8_; have BK101 := n9_; have HB := n10_; clear n0_ n1_ n2_ n3_ n4_ n5_ n6_ n7_ n8_ n9_ n10_; (try clear hb); (try clear ho0); (try clear A17)) | ((with_reducible refine gate_callee (f := 35) rfl ?_); refine goesL_ (some 76) rfl rfl Tryd.func35 (by kernel_rfl) rfl #[.slice Ao44 t103.length co44, .slice Ao36 t106.length co36] rfl (by (try simp only [List.map_toArray, List.map_cons, List.map_nil]); first | done | rfl) ?_; (with_reducible refine (through_Patch.calls k _ _ t103 _ _ t106 t139 t140 _ ?side1 ?side2 ?side3 ?side4 ?side5 A18.out).mono ?_); (case side1 => first | (with_reducible exact HG.out) | exact Glob.below HG.out (by repeat (first | (with_reducible first | exact HB.out | apply zA.b | apply zA.w | apply zA.e | refine zA.s ?_ GE101.out) | exact HB.out))); (case side2 => repeat (first | exact (R_reads' HO105.out).2.2 | (with_reducible refine C_alloc ?_ _) | (with_reducible refine C_drewN ?_ _) | (with_reducible refine C_drew ?_))); (case side3 => exact (R_reads' HO105.out).2.1); (case side4 => repeat (first | exact (Kd.N_reads' HO108.out).2.2 | (with_reducible refine C_alloc ?_ _) | (with_reducible refine C_drewN ?_ _) | (with_reducible refine C_drew ?_))); (case side5 => exact (Kd.N_reads' HO108.out).2.1); rintro e w51 ⟨v141, rfl, ho0, hb⟩; refine ⟨_, rfl, ?_⟩; have n0_ := Am (R_elder' (by (with_reducible repeat (first | apply zA.a | apply zA.n | apply zA.d)); exact HO105.out) (R_base ho0) hb); have n1_ := Am (Kd.N_elder' (by (with_reducible repeat (first | apply Kd.N_alloc | apply Kd.N_drewN | apply Kd.N_drew)); exact HO108.out) (R_base ho0) hb); have n2_ := Am (Kd.V_elder' (by (with_reducible repeat (first | apply Kd.V_alloc | apply Kd.V_drewN | apply Kd.V_drew)); exact HO113.out) (R_base ho0) hb); have n3_ := Am (R_elder' (by (with_reducible repeat (first | apply zA.a | apply zA.n | apply zA.d)); exact HO117.out) (R_base ho0) hb); have n4_ := Am (Kd.V_elder' (by (with_reducible repeat (first | apply Kd.V_alloc | apply Kd.V_drewN | apply Kd.V_drew)); exact HO123.out) (R_base ho0) hb); have n5_ := Am (R_elder' (by (with_reducible repeat (first | apply zA.a | apply zA.n | apply zA.d)); exact HO127.out) (R_base ho0) hb); have n6_ := Am (R_elder' (by (with_reducible repeat (first | apply zA.a | apply zA.n | apply zA.d)); exact HO131.out) (R_base ho0) hb); have n7_ := Am (Kd.N_elder' (by (with_reducible repeat (first | apply Kd.N_alloc | apply Kd.N_drewN | apply Kd.N_drew)); exact HO134.out) (R_base ho0) hb); have n8_ := Am (R_elder' (by (with_reducible repeat (first | apply zA.a | apply zA.n | apply zA.d)); exact HO138.out) (R_base ho0) hb); have n9_ := Am (R_lower (R_new' (R_new' (R_new' (R_new' (R_new' ho0 (R_lt (by (with_reducible repeat (first | apply zA.a | apply zA.n | apply zA.d)); exact HO105.out))) (R_lt (by (with_reducible repeat (first | apply zA.a | apply zA.n | apply zA.d)); exact HO117.out))) (R_lt (by (with_reducible repeat (first | apply zA.a | apply zA.n | apply zA.d)); exact HO127.out))) (R_lt (by (with_reducible repeat (first | apply zA.a | apply zA.n | apply zA.d)); exact HO131.out))) (R_lt (by (with_reducible repeat (first | apply zA.a | apply zA.n | apply zA.d)); exact HO138.out))) (below_size (by repeat (first | (with_reducible first | exact HB.out | apply zA.b | apply zA.w | apply zA.e | refine zA.s ?_ GE101.out) | exact HB.out)))); have n10_ := Am (blk_below (g := gb101) (o := .cells #[.int .u8 a2_0, .int .u8 a2_1] 55 (0, 0)) (by (with_reducible repeat (first | refine zA.f ?_ _ | refine zA.g ?_ | refine zA.h ?_ _)); exact BK101.out) hb); have n11_ := Am (below_step (by repeat (first | (with_reducible first | exact HB.out | apply zA.b | apply zA.w | apply zA.e | refine zA.s ?_ GE101.out) | exact HB.out)) hb); clear HO105; clear HO108; clear HO113; clear HO117; clear HO123; clear HO127; clear HO131; clear HO134; clear HO138; clear BK101; clear HB; have HO105 := n0_; have HO108 := n1_; have HO113 := n2_; have HO117 := n3_; have HO123 := n4_; have HO127 := n5_; have HO131 := n6_; have HO134 := n7_; have HO138 := n8_; have HO142 := n9_; have BK101 := n10_; have HB := n11_; clear n0_ n1_ n2_ n3_ n4_ n5_ n6_ n7_ n8_ n9_ n10_ n11_; (try clear hb); (try clear ho0); (try clear A18)) | ((with_reducible refine gate_dst (N := 83) rfl ?_); refine Kd.N_lit (Kd.slice 41 k41) _ 24 ?hg (N' := 83) ?hd (xs := ([t114, t124] : List (List (S41)))) (inner := [.slice Ao41 t114.length co41, .slice Ao46 t124.length co46]) (ok := (fun k_ => some k_ ≠ (.slice Ao44 t103.length co44 : Value).ownBlock ∧ some k_ ≠ (.slice Ao36 t106.length co36 : Value).ownBlock ∧ some k_ ≠ (v130 : Value).ownBlock ∧ some k_ ≠ (.slice Ao49 y132.length co49 : Value).ownBlock ∧ some k_ ≠ (v137 : Value).ownBlock ∧ some k_ ≠ (v141 : Value).ownBlock ∧ k_ ≠ gb101)) (okp := (fun k_ => some k_ ≠ (.slice Ao44 t103.length co44 : Value).ownBlock ∧ some k_ ≠ (.slice Ao36 t106.length co36 : Value).ownBlock ∧ some k_ ≠ (v130 : Value).ownBlock ∧ some k_ ≠ (.slice Ao49 y132.length co49 : Value).ownBlock ∧ some k_ ≠ (v137 : Value).ownBlock ∧ some k_ ≠ (v141 : Value).ownBlock ∧ k_ ≠ gb101)) ?hr ?hp (fun _ hk => hk) ((show ∀ k_, w51.heap.size ≤ k_ → (fun k_ => some k_ ≠ (.slice Ao44 t103.length co44 : Value).ownBlock ∧ some k_ ≠ (.slice Ao36 t106.length co36 : Value).ownBlock ∧ some k_ ≠ (v130 : Value).ownBlock ∧ some k_ ≠ (.slice Ao49 y132.length co49 : Value).ownBlock ∧ some k_ ≠ (v137 : Value).ownBlock ∧ some k_ ≠ (v141 : Value).ownBlock ∧ k_ ≠ gb101) k_ from fun k_ hk => ⟨Kd.fresh' (R_lt (by (with_reducible repeat (first | apply zA.a | apply zA.n | apply zA.d)); exact HO105.out)) k_ hk, Kd.fresh' (Kd.N_lt (by (with_reducible repeat (first | apply Kd.N_alloc | apply Kd.N_drewN | apply Kd.N_drew)); exact HO108.out)) k_ hk, Kd.fresh' (R_lt (by (with_reducible repeat (first | apply zA.a | apply zA.n | apply zA.d)); exact HO131.out)) k_ hk, Kd.fresh' (Kd.N_lt (by (with_reducible repeat (first | apply Kd.N_alloc | apply Kd.N_drewN | apply Kd.N_drew)); exact HO134.out)) k_ hk, Kd.fresh' (R_lt (by (with_reducible repeat (first | apply zA.a | apply zA.n | apply zA.d)); exact HO138.out)) k_ hk, Kd.fresh' (R_lt (by (with_reducible repeat (first | apply zA.a | apply zA.n | apply zA.d)); exact HO142.out)) k_ hk, Kd.freshB (g := gb101) (o := .cells #[.int .u8 a2_0, .int .u8 a2_1] 55 (0, 0)) (by (with_reducible repeat (first | refine zA.f ?_ _ | refine zA.g ?_ | refine zA.h ?_ _)); exact BK101.out) k_ hk⟩) _ (Nat.le_refl _)) (Below.refl _ _) (Nat.le_refl _) (by simp) ?_; (case hd => rfl); (case hg => rfl); (case hr => first | (go_simp; done) | (go_simp; rfl)); (case hp => exact (Reps.one (show Kd.FK (Kd.slice 41 k41) _ _ t114 [.slice Ao41 t114.length co41] from (Kd.FK_slice_mk (R_reads' (R_mono (ok' := (fun k_ => some k_ ≠ (.slice Ao44 t103.length co44 : Value).ownBlock ∧ some k_ ≠ (.slice Ao36 t106.length co36 : Value).ownBlock ∧ some k_ ≠ (v130 : Value).ownBlock ∧ some k_ ≠ (.slice Ao49 y132.length co49 : Value).ownBlock ∧ some k_ ≠ (v137 : Value).ownBlock ∧ some k_ ≠ (v141 : Value).ownBlock ∧ k_ ≠ gb101)) (R_types (R_apart' (R_apart' (HO117.out) (Kd.N_typed HO108.out) (by decide)) (Kd.N_typed HO134.out) (by decide)) BK101.out (by decide)) (fun k_ hk => ⟨hk.1.1.1.1.1.1.1.2, ⟨hk.1.1.2, ⟨hk.1.1.1.1.1.2, ⟨hk.1.2, ⟨hk.1.1.1.1.2, ⟨hk.1.1.1.2, hk.2⟩⟩⟩⟩⟩⟩))).2.1 (R_F (R_mono (ok' := (fun k_ => some k_ ≠ (.slice Ao44 t103.length co44 : Value).ownBlock ∧ some k_ ≠ (.slice Ao36 t106.length co36 : Value).ownBlock ∧ some k_ ≠ (v130 : Value).ownBlock ∧ some k_ ≠ (.slice Ao49 y132.length co49 : Value).ownBlock ∧ some k_ ≠ (v137 : Value).ownBlock ∧ some k_ ≠ (v141 : Value).ownBlock ∧ k_ ≠ gb101)) (R_types (R_apart' (R_apart' (HO117.out) (Kd.N_typed HO108.out) (by decide)) (Kd.N_typed HO134.out) (by decide)) BK101.out (by decide)) (fun k_ hk => ⟨hk.1.1.1.1.1.1.1.2, ⟨hk.1.1.2, ⟨hk.1.1.1.1.1.2, ⟨hk.1.2, ⟨hk.1.1.1.1.2, ⟨hk.1.1.1.2, hk.2⟩⟩⟩⟩⟩⟩))))) (Reps.one (show Kd.FK (Kd.slice 41 k41) _ _ t124 [.slice Ao46 t124.length co46] from (Kd.FK_slice_mk (R_reads' (R_mono (ok' := (fun k_ => some k_ ≠ (.slice Ao44 t103.length co44 : Value).ownBlock ∧ some k_ ≠ (.slice Ao36 t106.length co36 : Value).ownBlock ∧ some k_ ≠ (v130 : Value).ownBlock ∧ some k_ ≠ (.slice Ao49 y132.length co49 : Value).ownBlock ∧ some k_ ≠ (v137 : Value).ownBlock ∧ some k_ ≠ (v141 : Value).ownBlock ∧ k_ ≠ gb101)) (R_types (R_apart' (R_apart' (HO127.out) (Kd.N_typed HO108.out) (by decide)) (Kd.N_typed HO134.out) (by decide)) BK101.out (by decide)) (fun k_ hk => ⟨hk.1.1.1.1.1.1.1.2, ⟨hk.1.1.2, ⟨hk.1.1.1.1.1.2, ⟨hk.1.2, ⟨hk.1.1.1.1.2, ⟨hk.1.1.1.2, hk.2⟩⟩⟩⟩⟩⟩))).2.1 (R_F (R_mono (ok' := (fun k_ => some k_ ≠ (.slice Ao44 t103.length co44 : Value).ownBlock ∧ some k_ ≠ (.slice Ao36 t106.length co36 : Value).ownBlock ∧ some k_ ≠ (v130 : Value).ownBlock ∧ some k_ ≠ (.slice Ao49 y132.length co49 : Value).ownBlock ∧ some k_ ≠ (v137 : Value).ownBlock ∧ some k_ ≠ (v141 : Value).ownBlock ∧ k_ ≠ gb101)) (R_types (R_apart' (R_apart' (HO127.out) (Kd.N_typed HO108.out) (by decide)) (Kd.N_typed HO134.out) (by decide)) BK101.out (by decide)) (fun k_ hk => ⟨hk.1.1.1.1.1.1.1.2, ⟨hk.1.1.2, ⟨hk.1.1.1.1.1.2, ⟨hk.1.2, ⟨hk.1.1.1.1.2, ⟨hk.1.1.1.2, hk.2⟩⟩⟩⟩⟩⟩))))) (Reps.none _ _)))); intro v144 w52 ho53 hb hg_ hnew_; clear hg_ hnew_; (first | rw [← Ny143.out] at ho53 | (simp only [Int.reduceToNat] at ho53; rw [← Ny143.out] at ho53)); have n0_ := Am (R_below (by (with_reducible repeat (first | apply zA.a | apply zA.n | apply zA.d)); exact HO105.out) hb); have n1_ := Am (Kd.N_elder' (by (with_reducible repeat (first | apply Kd.N_alloc | apply Kd.N_drewN | apply Kd.N_drew)); exact HO108.out) (Kd.N_base ho53) hb); have n2_ := Am (Kd.V_elder' (by (with_reducible repeat (first | apply Kd.V_alloc | apply Kd.V_drewN | apply Kd.V_drew)); exact HO113.out) (Kd.N_base ho53) hb); have n3_ := Am (R_below (by (with_reducible repeat (first | apply zA.a | apply zA.n | apply zA.d)); exact HO117.out) hb); have n4_ := Am (Kd.V_elder' (by (with_reducible repeat (first | apply Kd.V_alloc | apply Kd.V_drewN | apply Kd.V_drew)); exact HO123.out) (Kd.N_base ho53) hb); have n5_ := Am (R_below (by (with_reducible repeat (first | apply zA.a | apply zA.n | apply zA.d)); exact HO127.out) hb); have n6_ := Am (R_below (by (with_reducible repeat (first | apply zA.a | apply zA.n | apply zA.d)); exact HO131.out) hb); have n7_ := Am (Kd.N_elder' (by (with_reducible repeat (first | apply Kd.N_alloc | apply Kd.N_drewN | apply Kd.N_drew)); exact HO134.out) (Kd.N_base ho53) hb); have n8_ := Am (R_below (by (with_reducible repeat (first | apply zA.a | apply zA.n | apply zA.d)); exact HO138.out) hb); have n9_ := Am (R_below (by (with_reducible repeat (first | apply zA.a | apply zA.n | apply zA.d)); exact HO142.out) hb); have n10_ := Am (Kd.N_lower ho53 (below_size (by repeat (first | (with_reducible first | exact HB.out | apply zA.b | apply zA.w | apply zA.e | refine zA.s ?_ GE101.out) | exact HB.out)))); have n11_ := Am (blk_below (g := gb101) (o := .cells #[.int .u8 a2_0, .int .u8 a2_1] 55 (0, 0)) (by (with_reducible repeat (first | refine zA.f ?_ _ | refine zA.g ?_ | refine zA.h ?_ _)); exact BK101.out) hb); have n12_ := Am (below_step (by repeat (first | (with_reducible first | exact HB.out | apply zA.b | apply zA.w | apply zA.e | refine zA.s ?_ GE101.out) | exact HB.out)) hb); clear HO105; clear HO108; clear HO113; clear HO117; clear HO123; clear HO127; clear HO131; clear HO134; clear HO138; clear HO142; clear BK101; clear HB; have HO105 := n0_; have HO108 := n1_; have HO113 := n2_; have HO117 := n3_; have HO123 := n4_; have HO127 := n5_; have HO131 := n6_; have HO134 := n7_; have HO138 := n8_; have HO142 := n9_; have HO145 := n10_; have BK101 := n11_; have HB := n12_; clear n0_ n1_ n2_ n3_ n4_ n5_ n6_ n7_ n8_ n9_ n10_ n11_ n12_; clear hb ho53; obtain ⟨Ao54, co54, eo54⟩ := Kd.N_slice HO145.out; subst eo54) | ((with_reducible refine gate_callee (f := 35) rfl ?_); refine goesL_ (some 84) rfl rfl Tryd.func35 (by kernel_rfl) rfl #[.slice Ao44 t103.length co44, .slice Ao54 y143.length co54] rfl (by (try simp only [List.map_toArray, List.map_cons, List.map_nil]); first | done | rfl) ?_; (with_reducible refine (through_Patch.calls k _ _ t103 _ _ y143 t146 t147 _ ?side1 ?side2 ?side3 ?side4 ?side5 A19.out).mono ?_); (case side1 => first | (with_reducible exact HG.out) | exact Glob.below HG.out (by repeat (first | (with_reducible first | exact HB.out | apply zA.b | apply zA.w | apply zA.e | refine zA.s ?_ GE101.out) | exact HB.out))); (case side2 => repeat (first | exact (R_reads' HO105.out).2.2 | (with_reducible refine C_alloc ?_ _) | (with_reducible refine C_drewN ?_ _) | (with_reducible refine C_drew ?_))); (case side3 => exact (R_reads' HO105.out).2.1); (case side4 => repeat (first | exact (Kd.N_reads' HO145.out).2.2 | (with_reducible refine C_alloc ?_ _) | (with_reducible refine C_drewN ?_ _) | (with_reducible refine C_drew ?_))); (case side5 => exact (Kd.N_reads' HO145.out).2.1); rintro e w55 ⟨v148, rfl, ho0, hb⟩; refine ⟨_, rfl, ?_⟩; have n0_ := Am (R_elder' (by (with_reducible repeat (first | apply zA.a | apply zA.n | apply zA.d)); exact HO105.out) (R_base ho0) hb); have n1_ := Am (Kd.N_elder' (by (with_reducible repeat (first | apply Kd.N_alloc | apply Kd.N_drewN | apply Kd.N_drew)); exact HO108.out) (R_base ho0) hb); have n2_ := Am (Kd.V_elder' (by (with_reducible repeat (first | apply Kd.V_alloc | apply Kd.V_drewN | apply Kd.V_drew)); exact HO113.out) (R_base ho0) hb); have n3_ := Am (R_elder' (by (with_reducible repeat (first | apply zA.a | apply zA.n | apply zA.d)); exact HO117.out) (R_base ho0) hb); have n4_ := Am (Kd.V_elder' (by (with_reducible repeat (first | apply Kd.V_alloc | apply Kd.V_drewN | apply Kd.V_drew)); exact HO123.out) (R_base ho0) hb); have n5_ := Am (R_elder' (by (with_reducible repeat (first | apply zA.a | apply zA.n | apply zA.d)); exact HO127.out) (R_base ho0) hb); have n6_ := Am (R_elder' (by (with_reducible repeat (first | apply zA.a | apply zA.n | apply zA.d)); exact HO131.out) (R_base ho0) hb); have n7_ := Am (Kd.N_elder' (by (with_reducible repeat (first | apply Kd.N_alloc | apply Kd.N_drewN | apply Kd.N_drew)); exact HO134.out) (R_base ho0) hb); have n8_ := Am (R_elder' (by (with_reducible repeat (first | apply zA.a | apply zA.n | apply zA.d)); exact HO138.out) (R_base ho0) hb); have n9_ := Am (R_elder' (by (with_reducible repeat (first | apply zA.a | apply zA.n | apply zA.d)); exact HO142.out) (R_base ho0) hb); have n10_ := Am (Kd.N_elder' (by (with_reducible repeat (first | apply Kd.N_alloc | apply Kd.N_drewN | apply Kd.N_drew)); exact HO145.out) (R_base ho0) hb); have n11_ := Am (R_lower (R_new' (R_new' (R_new' (R_new' (R_new' (R_new' ho0 (R_lt (by (with_reducible repeat (first | apply zA.a | apply zA.n | apply zA.d)); exact HO105.out))) (R_lt (by (with_reducible repeat (first | apply zA.a | apply zA.n | apply zA.d)); exact HO117.out))) (R_lt (by (with_reducible repeat (first | apply zA.a | apply zA.n | apply zA.d)); exact HO127.out))) (R_lt (by (with_reducible repeat (first | apply zA.a | apply zA.n | apply zA.d)); exact HO131.out))) (R_lt (by (with_reducible repeat (first | apply zA.a | apply zA.n | apply zA.d)); exact HO138.out))) (R_lt (by (with_reducible repeat (first | apply zA.a | apply zA.n | apply zA.d)); exact HO142.out))) (below_size (by repeat (first | (with_reducible first | exact HB.out | apply zA.b | apply zA.w | apply zA.e | refine zA.s ?_ GE101.out) | exact HB.out)))); have n12_ := Am (blk_below (g := gb101) (o := .cells #[.int .u8 a2_0, .int .u8 a2_1] 55 (0, 0)) (by (with_reducible repeat (first | refine zA.f ?_ _ | refine zA.g ?_ | refine zA.h ?_ _)); exact BK101.out) hb); have n13_ := Am (below_step (by repeat (first | (with_reducible first | exact HB.out | apply zA.b | apply zA.w | apply zA.e | refine zA.s ?_ GE101.out) | exact HB.out)) hb); clear HO105; clear HO108; clear HO113; clear HO117; clear HO123; clear HO127; clear HO131; clear HO134; clear HO138; clear HO142; clear HO145; clear BK101; clear HB; have HO105 := n0_; have HO108 := n1_; have HO113 := n2_; have HO117 := n3_; have HO123 := n4_; have HO127 := n5_; have HO131 := n6_; have HO134 := n7_; have HO138 := n8_; have HO142 := n9_; have HO145 := n10_; have HO149 := n11_; have BK101 := n12_; have HB := n13_; clear n0_ n1_ n2_ n3_ n4_ n5_ n6_ n7_ n8_ n9_ n10_ n11_ n12_ n13_; (try clear hb); (try clear ho0); obtain ⟨Ao56, co56, eo56⟩ := R_slice HO131.out; subst eo56; obtain ⟨Ao57, co57, eo57⟩ := R_slice HO138.out; subst eo57; (try clear A19)) | (go_at_call 21; (with_reducible refine (epitomeref04_Same.calls k _ _ t128 _ _ t135 true _ ?side1 ?side2 ?side3 ?side4 A27.out).mono ?_); (case side1 => repeat (first | exact (R_reads' HO131.out).2.2 | (with_reducible refine C_alloc ?_ _) | (with_reducible refine C_drewN ?_ _) | (with_reducible refine C_drew ?_))); (case side2 => exact (R_reads' HO131.out).2.1); (case side3 => repeat (first | exact (R_reads' HO138.out).2.2 | (with_reducible refine C_alloc ?_ _) | (with_reducible refine C_drewN ?_ _) | (with_reducible refine C_drew ?_))); (case side4 => exact (R_reads' HO138.out).2.1); rintro e w' ⟨rfl, ⟨nd, rfl⟩⟩; obtain ⟨Ao58, co58, eo58⟩ := R_slice HO142.out; subst eo58; obtain ⟨Ao59, co59, eo59⟩ := R_slice HO149.out; subst eo59; (try clear A27)) | (go_at_call 21; (with_reducible refine (epitomeref04_Same.calls k _ _ t139 _ _ t146 t151 _ ?side1 ?side2 ?side3 ?side4 A29.out).mono ?_); (case side1 => repeat (first | exact (R_reads' HO142.out).2.2 | (with_reducible refine C_alloc ?_ _) | (with_reducible refine C_drewN ?_ _) | (with_reducible refine C_drew ?_))); (case side2 => exact (R_reads' HO142.out).2.1); (case side3 => repeat (first | exact (R_reads' HO149.out).2.2 | (with_reducible refine C_alloc ?_ _) | (with_reducible refine C_drewN ?_ _) | (with_reducible refine C_drew ?_))); (case side4 => exact (R_reads' HO149.out).2.1); rintro e w' ⟨rfl, ⟨nd, rfl⟩⟩; (try clear A29)))
            go_ret
            exact ⟨by first | rfl | (simp [errW_none, errW_some] <;> rfl) | (simp only [← hji8]; first | rfl | (simp [errW_none, errW_some] <;> rfl)) | (simp [*, errW_none, errW_some] <;> rfl), by repeat (first | (with_reducible first | exact HB.out | apply zA.b | apply zA.w | apply zA.e | refine zA.s ?_ GE101.out) | exact HB.out)⟩
           ·replace c28 := Bool.eq_false_iff.mpr c28
            subst c28
            have H1 : (some false) = some r := by rw [if_neg (show ¬ (false = true) by decide)] at H; exact H
            clear H
            have H := H1
            clear H1
            exact Bool.noConfusion ((Option.some.inj H).trans hr_.out)
          ·rw [if_neg c26] at H
           have c26b0 : (t147 == 0) = false := beq_eq_false_iff_ne.mpr c26
           have c26b1 : (t147 != 0) = true := bne_iff_ne.mpr c26
           exact Bool.noConfusion ((Option.some.inj H).trans hr_.out)
         ·rw [if_neg c25] at H
          have c25b0 : (t140 == 0) = false := beq_eq_false_iff_ne.mpr c25
          have c25b1 : (t140 != 0) = true := bne_iff_ne.mpr c25
          exact Bool.noConfusion ((Option.some.inj H).trans hr_.out)
        ·rw [if_neg c24] at H
         have c24b0 : (t136 == 0) = false := beq_eq_false_iff_ne.mpr c24
         have c24b1 : (t136 != 0) = true := bne_iff_ne.mpr c24
         exact Bool.noConfusion ((Option.some.inj H).trans hr_.out)
       ·rw [if_neg c23] at H
        have c23b0 : (t129 == 0) = false := beq_eq_false_iff_ne.mpr c23
        have c23b1 : (t129 != 0) = true := bne_iff_ne.mpr c23
        exact Bool.noConfusion ((Option.some.inj H).trans hr_.out)
      ·rw [if_neg c22] at H
       have c22b0 : (t125 == 0) = false := beq_eq_false_iff_ne.mpr c22
       have c22b1 : (t125 != 0) = true := bne_iff_ne.mpr c22
       exact Bool.noConfusion ((Option.some.inj H).trans hr_.out)
     ·rw [if_neg c21] at H
      have c21b0 : (t115 == 0) = false := beq_eq_false_iff_ne.mpr c21
      have c21b1 : (t115 != 0) = true := bne_iff_ne.mpr c21
      exact Bool.noConfusion ((Option.some.inj H).trans hr_.out)
    ·replace c20 := Bool.eq_false_iff.mpr c20
     subst c20
     have H1 : (some false) = some r := by rw [if_neg (show ¬ (false = true) by decide)] at H; exact H
     clear H
     have H := H1
     clear H1
     exact Bool.noConfusion ((Option.some.inj H).trans hr_.out)
   ·rw [if_neg c10] at H
    exact absurd H (by simp)
  ·rw [if_neg c9] at H
   exact absurd H (by simp)
end Go.Proofs.YthhgobiaecehbaaDoor.F
end
