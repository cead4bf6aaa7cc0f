import Derived.Test.YtkefbljogjcodaaDoorKCComposeAllE
import Derived.Below
import Derived.Deep.Draws
import Derived.Deep.AppendLies
import Derived.Maps.AppendAt
import Derived.OwnWalk
import Derived.Laws.BytesArg
import Derived.Laws.MakeOwn
import Derived.Laws.OwnMore
import Derived.Deep.OwnRows
import Derived.Tactics
import Derived.Lib.ConvBytes
import Derived.Laws.Slices
import Derived.WalkKit
import Derived.KernelRfl
import Derived.RowKit3
import Derived.Deep.LoopGhost
import Derived.Deep.QuietTactic
import Derived.BigQuiet
import Derived.WideLaws
import Derived.Deep.DeepCutAuto
import Derived.Deep.CutBlock
import Derived.Deep.RegionHeld3
import Derived.Laws.Rows
import Derived.Lib.AppendStr
import Derived.ArgAppend
import Derived.Laws.IdiomCopy
import Derived.RowKit
import Derived.OrdersHeld
import Derived.Laws.BitsLemmas
import Derived.Laws.StructEq
import Derived.Test.YtkefbljogjcodaaDoorProg
import Derived.Handy
import Derived.Shelf.Unicode.DecodeSlow
import Derived.Ground.NamesProg
import Derived.Shelf.Unicode.ValidAny
import Derived.Laws.RangeString
import Derived.Laws.RangeAny
import Derived.Lib.RuneCount
import Derived.Laws.IdiomStrings
import Derived.Laws.Cover4
import Derived.Great.BuildSlice
import Derived.Defers
section
namespace Go.Proofs.YtkefbljogjcodaaDoor.F
open Go.RowKit Go.Proofs.YtkefbljogjcodaaDoorW.PrintWords Go.Proofs.YtkefbljogjcodaaDoorW.PrintLast Go.Proofs.YtkefbljogjcodaaDoorW.PrintMore
attribute [local go_sem] max2_int min2_int max_two min_two max_three min_three max_four min_four cell_setCell_isSome
set_option linter.unusedVariables false
set_option linter.unusedSimpArgs false
open Kd
def epitomelaw09_ComposeAll.f (k : Nat) (l0 : List (S26)) (l1 : List (S26)) (a2 : Int) : Option (Bool) := (epitomelaw09_shown.f k).bind fun t101 => ((epitomeref04_Fit.f k l0 (wrap64 (Int.tmod a2 64))).bind fun t102 => ((op_Out.f k t102).bind fun t105 => ((epitomeref04_Fit.f k l1 t105).bind fun t106 => ((compose_Of.f k t102 t106).bind fun bt109 => ((epitomeref09_Of.f k t102 t106).bind fun bt113 => ((epitomelaw09_few.f k l0).bind fun t117 => ((epitomelaw09_few.f k l1).bind fun t120 => ((compose_Of.f k t117 t120).bind fun bt123 => ((epitomelaw09_few.f k l0).bind fun t127 => ((epitomelaw09_few.f k l1).bind fun t130 => ((epitomeref09_Of.f k t127 t130).bind fun bt133 => (if t101 = true then ((epitomeref04_Same.f k bt109.1 bt113.1).bind fun t137 => (if t137 = true then (if bt109.2 = bt113.2 then ((epitomeref04_Same.f k bt123.1 bt133.1).bind fun t138 => (if t138 = true then (some (bt123.2 == bt133.2)) else (some false))) else (some false)) else (some false))) else (some false)))))))))))))
set_option maxHeartbeats 8000000 in
set_option maxRecDepth 100000 in
theorem epitomelaw09_ComposeAll.calls (k : Nat) (A0 : Option Addr) (c0 : Nat) (l0 : List (S26)) (A1 : Option Addr) (c1 : Nat) (l1 : List (S26)) (a2 : Int) (r : Bool) (hr_ : Aside0 (r = true)) (w : World) (hG : Glob w) (hr0 : Kd.C k26 w A0 l0.length l0) (hc0 : l0.length ≤ c0) (hr1 : Kd.C k26 w A1 l1.length l1) (hc1 : l1.length ≤ c1) (h : epitomelaw09_ComposeAll.f k l0 l1 a2 = some r) :
  Calls Tryd.prog 8 #[.slice A0 l0.length c0, .slice A1 l1.length c1, .int .u8 a2] w fun e w' => e = .returned (.bool r) ∧ Below w.heap.size w w' := by
 have HG := Am hG;clear hG;have HR0 := Am hr0;have HC0 := Am hc0;clear hr0 hc0;have HR1 := Am hr1;have HC1 := Am hc1;clear hr1 hc1;have HB := Am (Below.refl w.heap.size w)
 have H : ((epitomelaw09_shown.f k).bind fun t101 => ((epitomeref04_Fit.f k l0 (wrap64 (Int.tmod a2 64))).bind fun t102 => ((op_Out.f k t102).bind fun t105 => ((epitomeref04_Fit.f k l1 t105).bind fun t106 => ((compose_Of.f k t102 t106).bind fun bt109 => ((epitomeref09_Of.f k t102 t106).bind fun bt113 => ((epitomelaw09_few.f k l0).bind fun t117 => ((epitomelaw09_few.f k l1).bind fun t120 => ((compose_Of.f k t117 t120).bind fun bt123 => ((epitomelaw09_few.f k l0).bind fun t127 => ((epitomelaw09_few.f k l1).bind fun t130 => ((epitomeref09_Of.f k t127 t130).bind fun bt133 => (if t101 = true then ((epitomeref04_Same.f k bt109.1 bt113.1).bind fun t137 => (if t137 = true then (if bt109.2 = bt113.2 then ((epitomeref04_Same.f k bt123.1 bt133.1).bind fun t138 => (if t138 = true then (some (bt123.2 == bt133.2)) else (some false))) else (some false)) else (some false))) else (some false)))))))))))))) = some r := h
 clear h;replace H := Option.bind_eq_some_iff.mp H;obtain ⟨t101, A40, H⟩ := H;have A4 := Am A40;clear A40;replace H := Option.bind_eq_some_iff.mp H;obtain ⟨t102, A50, H⟩ := H;have A5 := Am A50;clear A50;replace H := Option.bind_eq_some_iff.mp H;obtain ⟨t105, A60, H⟩ := H;have A6 := Am A60;clear A60;replace H := Option.bind_eq_some_iff.mp H;obtain ⟨t106, A70, H⟩ := H;have A7 := Am A70;clear A70;replace H := Option.bind_eq_some_iff.mp H;obtain ⟨⟨t109, t110⟩, A80, H⟩ := H;have A8 := Am A80;clear A80;replace H := Option.bind_eq_some_iff.mp H;obtain ⟨⟨t113, t114⟩, A90, H⟩ := H;have A9 := Am A90;clear A90;replace H := Option.bind_eq_some_iff.mp H;obtain ⟨t117, A100, H⟩ := H;have A10 := Am A100;clear A100;replace H := Option.bind_eq_some_iff.mp H;obtain ⟨t120, A110, H⟩ := H;have A11 := Am A110;clear A110;replace H := Option.bind_eq_some_iff.mp H;obtain ⟨⟨t123, t124⟩, A120, H⟩ := H;have A12 := Am A120;clear A120;replace H := Option.bind_eq_some_iff.mp H;obtain ⟨t127, A130, H⟩ := H;have A13 := Am A130;clear A130;replace H := Option.bind_eq_some_iff.mp H;obtain ⟨t130, A140, H⟩ := H;have A14 := Am A140;clear A140;replace H := Option.bind_eq_some_iff.mp H;obtain ⟨⟨t133, t134⟩, A150, H⟩ := H;have A15 := Am A150;clear A150;by_cases c16 : t101 = true
 ·subst c16
  have H1 : ((epitomeref04_Same.f k t109 t113).bind fun t137 => (if t137 = true then (if t110 = t114 then ((epitomeref04_Same.f k t123 t133).bind fun t138 => (if t138 = true then (some (t124 == t134)) else (some false))) else (some false)) else (some false))) = some r := by rw [if_pos rfl] at H; exact H
  clear H;have H := H1
  clear H1;replace H := Option.bind_eq_some_iff.mp H;obtain ⟨t137, A170, H⟩ := H;have A17 := Am A170;clear A170;by_cases c18 : t137 = true
  ·subst c18
   have H1 : (if t110 = t114 then ((epitomeref04_Same.f k t123 t133).bind fun t138 => (if t138 = true then (some (t124 == t134)) else (some false))) else (some false)) = some r := by rw [if_pos rfl] at H; exact H
   clear H;have H := H1
   clear H1;by_cases c19 : t110 = t114
   ·rw [if_pos c19] at H;have c19b0 : (t110 == t114) = true := beq_iff_eq.mpr c19
    have c19b1 : (t110 != t114) = false := bne_eq_false_iff_eq.mpr c19
    clear c19;replace H := Option.bind_eq_some_iff.mp H;obtain ⟨t138, A200, H⟩ := H;replace H : (if t138 = true then (some (t124 == t134)) else (some false)) = some r := H
    have A20 := Am A200;clear A200;by_cases c21 : t138 = true
    ·subst c21
     have H1 : (some (t124 == t134)) = some r := by rw [if_pos rfl] at H; exact H
     clear H;have H := H1
     clear H1;obtain rfl := Option.some.inj H;go_enter Tryd.func8, Tryd.ntmps8
     go_wp2_with (first | ((with_reducible refine gate_callee (f := 35) rfl ?_); refine goesL_ (some 18) rfl rfl Tryd.func35 (by kernel_rfl) rfl #[] rfl zE ?_; (with_reducible refine (epitomelaw09_shown.calls k  true ⟨rfl⟩ _ ?side1 A4.out).mono ?_); (case side1 => exact zg HG HB); rintro e w22 ⟨rfl, hb⟩; refine ⟨_, rfl, ?_⟩; replace HB := Am (below_step (zB HB) hb); (try clear hb)) | ((with_reducible refine gate_callee (f := 20) rfl ?_); refine goesL_ (some 23) rfl rfl Tryd.func20 (by kernel_rfl) rfl #[.slice A0 l0.length c0, .int .i64 (wrap64 (Int.tmod a2 64))] rfl zE ?_; (with_reducible refine (epitomeref04_Fit.calls k _ _ l0 (wrap64 (Int.tmod a2 64)) t102 _ ?side1 ?side2 A5.out).mono ?_); (case side1 => exact zI (C_below HR0.out HB.out)); (case side2 => exact HC0.out); rintro e w23 ⟨v103, rfl, ho0, hb⟩; refine ⟨_, rfl, ?_⟩; have HO104 := Am (R_lower ho0 (below_size (zB HB)));replace HB := Am (below_step (zB HB) hb); (try clear hb); (try clear ho0); obtain ⟨Ao24, co24, eo24⟩ := R_slice HO104.out; subst eo24; (try clear A5)) | ((with_reducible refine gate_callee (f := 32) rfl ?_); refine goesL_ (some 26) rfl rfl Tryd.func32 (by kernel_rfl) rfl #[.slice Ao24 t102.length co24] rfl zE ?_; (with_reducible refine (op_Out.calls k _ _ t102 t105 _ ?side1 ?side2 ?side3 A6.out).mono ?_); (case side1 => exact zg HG HB); (case side2 => exact zI (R_reads' HO104.out).2.2); (case side3 => exact (R_reads' HO104.out).2.1); rintro e w25 ⟨rfl, hb⟩; refine ⟨_, rfl, ?_⟩; replace HO104 := Am (R_below (zR HO104) hb);replace HB := Am (below_step (zB HB) hb); (try clear hb)) | ((with_reducible refine gate_callee (f := 20) rfl ?_); refine goesL_ (some 27) rfl rfl Tryd.func20 (by kernel_rfl) rfl #[.slice A1 l1.length c1, .int .i64 t105] rfl zE ?_; (with_reducible refine (epitomeref04_Fit.calls k _ _ l1 t105 t106 _ ?side1 ?side2 A7.out).mono ?_); (case side1 => exact zI (C_below HR1.out HB.out)); (case side2 => exact HC1.out); rintro e w26 ⟨v107, rfl, ho0, hb⟩; refine ⟨_, rfl, ?_⟩; have HO108 := Am (R_lower (zn ho0 HO104) (below_size (zB HB)));replace HO104 := Am (zr HO104 ho0 hb);replace HB := Am (below_step (zB HB) hb); (try clear hb); (try clear ho0); obtain ⟨Ao27, co27, eo27⟩ := R_slice HO108.out; subst eo27; (try clear A7)) | ((with_reducible refine gate_callee (f := 36) rfl ?_); refine goesL_ (some 31) rfl rfl Tryd.func36 (by kernel_rfl) rfl #[.slice Ao24 t102.length co24, .slice Ao27 t106.length co27] rfl zE ?_; (with_reducible refine (compose_Of.calls k _ _ t102 _ _ t106 t109 t110 _ ?side1 ?side2 ?side3 ?side4 ?side5 A8.out).mono ?_); (case side1 => exact zg HG HB); (case side2 => exact zI (R_reads' HO104.out).2.2); (case side3 => exact (R_reads' HO104.out).2.1); (case side4 => exact zI (R_reads' HO108.out).2.2); (case side5 => exact (R_reads' HO108.out).2.1); rintro e w28 ⟨v111, rfl, ho0, hb⟩; refine ⟨_, rfl, ?_⟩; have HO112 := Am (R_lower (zn (zn ho0 HO104) HO108) (below_size (zB HB)));replace HO104 := Am (zr HO104 ho0 hb);replace HO108 := Am (zr HO108 ho0 hb);replace HB := Am (below_step (zB HB) hb); (try clear hb); (try clear ho0); (try clear A8)) | ((with_reducible refine gate_callee (f := 37) rfl ?_); refine goesL_ (some 37) rfl rfl Tryd.func37 (by kernel_rfl) rfl #[.slice Ao24 t102.length co24, .slice Ao27 t106.length co27] rfl zE ?_; (with_reducible refine (epitomeref09_Of.calls k _ _ t102 _ _ t106 t113 t114 _ ?side1 ?side2 ?side3 ?side4 A9.out).mono ?_); (case side1 => exact zI (R_reads' HO104.out).2.2); (case side2 => exact (R_reads' HO104.out).2.1); (case side3 => exact zI (R_reads' HO108.out).2.2); (case side4 => exact (R_reads' HO108.out).2.1); rintro e w29 ⟨v115, rfl, ho0, hb⟩; refine ⟨_, rfl, ?_⟩; have HO116 := Am (R_lower (zn (zn (zn ho0 HO104) HO108) HO112) (below_size (zB HB)));replace HO104 := Am (zr HO104 ho0 hb);replace HO108 := Am (zr HO108 ho0 hb);replace HO112 := Am (zr HO112 ho0 hb);replace HB := Am (below_step (zB HB) hb); (try clear hb); (try clear ho0); (try clear A9)) | ((with_reducible refine gate_callee (f := 38) rfl ?_); refine goesL_ (some 42) rfl rfl Tryd.func38 (by kernel_rfl) rfl #[.slice A0 l0.length c0] rfl zE ?_; (with_reducible refine (epitomelaw09_few.calls k _ _ l0 t117 _ ?side1 ?side2 A10.out).mono ?_); (case side1 => exact zI (C_below HR0.out HB.out)); (case side2 => exact HC0.out); rintro e w30 ⟨v118, rfl, ho0, hb⟩; refine ⟨_, rfl, ?_⟩; have HO119 := Am (R_lower (zn (zn (zn (zn ho0 HO104) HO108) HO112) HO116) (below_size (zB HB)));replace HO104 := Am (zr HO104 ho0 hb);replace HO108 := Am (zr HO108 ho0 hb);replace HO112 := Am (zr HO112 ho0 hb);replace HO116 := Am (zr HO116 ho0 hb);replace HB := Am (below_step (zB HB) hb); (try clear hb); (try clear ho0); (try clear A10)) | ((with_reducible refine gate_callee (f := 38) rfl ?_); refine goesL_ (some 44) rfl rfl Tryd.func38 (by kernel_rfl) rfl #[.slice A1 l1.length c1] rfl zE ?_; (with_reducible refine (epitomelaw09_few.calls k _ _ l1 t120 _ ?side1 ?side2 A11.out).mono ?_); (case side1 => exact zI (C_below HR1.out HB.out)); (case side2 => exact HC1.out); rintro e w31 ⟨v121, rfl, ho0, hb⟩; refine ⟨_, rfl, ?_⟩; have HO122 := Am (R_lower (zn (zn (zn (zn (zn ho0 HO104) HO108) HO112) HO116) HO119) (below_size (zB HB)));replace HO104 := Am (zr HO104 ho0 hb);replace HO108 := Am (zr HO108 ho0 hb);replace HO112 := Am (zr HO112 ho0 hb);replace HO116 := Am (zr HO116 ho0 hb);replace HO119 := Am (zr HO119 ho0 hb);replace HB := Am (below_step (zB HB) hb); (try clear hb); (try clear ho0); obtain ⟨Ao32, co32, eo32⟩ := R_slice HO119.out; subst eo32; obtain ⟨Ao33, co33, eo33⟩ := R_slice HO122.out; subst eo33; (try clear A11)) | ((with_reducible refine gate_callee (f := 36) rfl ?_); refine goesL_ (some 45) rfl rfl Tryd.func36 (by kernel_rfl) rfl #[.slice Ao32 t117.length co32, .slice Ao33 t120.length co33] rfl zE ?_; (with_reducible refine (compose_Of.calls k _ _ t117 _ _ t120 t123 t124 _ ?side1 ?side2 ?side3 ?side4 ?side5 A12.out).mono ?_); (case side1 => exact zg HG HB); (case side2 => exact zI (R_reads' HO119.out).2.2); (case side3 => exact (R_reads' HO119.out).2.1); (case side4 => exact zI (R_reads' HO122.out).2.2); (case side5 => exact (R_reads' HO122.out).2.1); rintro e w34 ⟨v125, rfl, ho0, hb⟩; refine ⟨_, rfl, ?_⟩; have HO126 := Am (R_lower (zn (zn (zn (zn (zn (zn ho0 HO104) HO108) HO112) HO116) HO119) HO122) (below_size (zB HB)));replace HO104 := Am (zr HO104 ho0 hb);replace HO108 := Am (zr HO108 ho0 hb);replace HO112 := Am (zr HO112 ho0 hb);replace HO116 := Am (zr HO116 ho0 hb);replace HO119 := Am (zr HO119 ho0 hb);replace HO122 := Am (zr HO122 ho0 hb);replace HB := Am (below_step (zB HB) hb); (try clear hb); (try clear ho0); (try clear A12)) | ((with_reducible refine gate_callee (f := 38) rfl ?_); refine goesL_ (some 50) rfl rfl Tryd.func38 (by kernel_rfl) rfl #[.slice A0 l0.length c0] rfl zE ?_; (with_reducible refine (epitomelaw09_few.calls k _ _ l0 t127 _ ?side1 ?side2 A13.out).mono ?_); (case side1 => exact zI (C_below HR0.out HB.out)); (case side2 => exact HC0.out); rintro e w35 ⟨v128, rfl, ho0, hb⟩; refine ⟨_, rfl, ?_⟩; have HO129 := Am (R_lower (zn (zn (zn (zn (zn (zn (zn ho0 HO104) HO108) HO112) HO116) HO119) HO122) HO126) (below_size (zB HB)));replace HO104 := Am (zr HO104 ho0 hb);replace HO108 := Am (zr HO108 ho0 hb);replace HO112 := Am (zr HO112 ho0 hb);replace HO116 := Am (zr HO116 ho0 hb);replace HO119 := Am (zr HO119 ho0 hb);replace HO122 := Am (zr HO122 ho0 hb);replace HO126 := Am (zr HO126 ho0 hb);replace HB := Am (below_step (zB HB) hb); (try clear hb); (try clear ho0); (try clear A13)) | ((with_reducible refine gate_callee (f := 38) rfl ?_); refine goesL_ (some 52) rfl rfl Tryd.func38 (by kernel_rfl) rfl #[.slice A1 l1.length c1] rfl zE ?_; (with_reducible refine (epitomelaw09_few.calls k _ _ l1 t130 _ ?side1 ?side2 A14.out).mono ?_); (case side1 => exact zI (C_below HR1.out HB.out)); (case side2 => exact HC1.out); rintro e w36 ⟨v131, rfl, ho0, hb⟩; refine ⟨_, rfl, ?_⟩; have HO132 := Am (R_lower (zn (zn (zn (zn (zn (zn (zn (zn ho0 HO104) HO108) HO112) HO116) HO119) HO122) HO126) HO129) (below_size (zB HB)));replace HO104 := Am (zr HO104 ho0 hb);replace HO108 := Am (zr HO108 ho0 hb);replace HO112 := Am (zr HO112 ho0 hb);replace HO116 := Am (zr HO116 ho0 hb);replace HO119 := Am (zr HO119 ho0 hb);replace HO122 := Am (zr HO122 ho0 hb);replace HO126 := Am (zr HO126 ho0 hb);replace HO129 := Am (zr HO129 ho0 hb);replace HB := Am (below_step (zB HB) hb); (try clear hb); (try clear ho0); obtain ⟨Ao37, co37, eo37⟩ := R_slice HO129.out; subst eo37; obtain ⟨Ao38, co38, eo38⟩ := R_slice HO132.out; subst eo38; (try clear A14)) | ((with_reducible refine gate_callee (f := 37) rfl ?_); refine goesL_ (some 53) rfl rfl Tryd.func37 (by kernel_rfl) rfl #[.slice Ao37 t127.length co37, .slice Ao38 t130.length co38] rfl zE ?_; (with_reducible refine (epitomeref09_Of.calls k _ _ t127 _ _ t130 t133 t134 _ ?side1 ?side2 ?side3 ?side4 A15.out).mono ?_); (case side1 => exact zI (R_reads' HO129.out).2.2); (case side2 => exact (R_reads' HO129.out).2.1); (case side3 => exact zI (R_reads' HO132.out).2.2); (case side4 => exact (R_reads' HO132.out).2.1); rintro e w39 ⟨v135, rfl, ho0, hb⟩; refine ⟨_, rfl, ?_⟩; have HO136 := Am (R_lower (zn (zn (zn (zn (zn (zn (zn (zn (zn ho0 HO104) HO108) HO112) HO116) HO119) HO122) HO126) HO129) HO132) (below_size (zB HB)));replace HO104 := Am (zr HO104 ho0 hb);replace HO108 := Am (zr HO108 ho0 hb);replace HO112 := Am (zr HO112 ho0 hb);replace HO116 := Am (zr HO116 ho0 hb);replace HO119 := Am (zr HO119 ho0 hb);replace HO122 := Am (zr HO122 ho0 hb);replace HO126 := Am (zr HO126 ho0 hb);replace HO129 := Am (zr HO129 ho0 hb);replace HO132 := Am (zr HO132 ho0 hb);replace HB := Am (below_step (zB HB) hb); (try clear hb); (try clear ho0); obtain ⟨Ao40, co40, eo40⟩ := R_slice HO112.out; subst eo40; obtain ⟨Ao41, co41, eo41⟩ := R_slice HO116.out; subst eo41; (try clear A15)) | (go_at_call 18; (with_reducible refine (epitomeref04_Same.calls k _ _ t109 _ _ t113 true _ ?side1 ?side2 ?side3 ?side4 A17.out).mono ?_); (case side1 => exact zI (R_reads' HO112.out).2.2); (case side2 => exact (R_reads' HO112.out).2.1); (case side3 => exact zI (R_reads' HO116.out).2.2); (case side4 => exact (R_reads' HO116.out).2.1); rintro e w' ⟨rfl, ⟨nd, rfl⟩⟩; obtain ⟨Ao42, co42, eo42⟩ := R_slice HO126.out; subst eo42; obtain ⟨Ao43, co43, eo43⟩ := R_slice HO136.out; subst eo43; (try clear A17)) | (go_at_call 18; (with_reducible refine (epitomeref04_Same.calls k _ _ t123 _ _ t133 true _ ?side1 ?side2 ?side3 ?side4 A20.out).mono ?_); (case side1 => exact zI (R_reads' HO126.out).2.2); (case side2 => exact (R_reads' HO126.out).2.1); (case side3 => exact zI (R_reads' HO136.out).2.2); (case side4 => exact (R_reads' HO136.out).2.1); rintro e w' ⟨rfl, ⟨nd, rfl⟩⟩; (try clear A20)))
     go_ret
     exact ⟨zF, (zB HB)⟩
    ·replace c21 := Bool.eq_false_iff.mpr c21
     subst c21
     have H1 : (some false) = some r := by rw [if_neg (show ¬ (false = true) by decide)] at H; exact H
     clear H;have H := H1
     clear H1;exact Bool.noConfusion ((Option.some.inj H).trans hr_.out)
   ·rw [if_neg c19] at H;have c19b0 : (t110 == t114) = false := beq_eq_false_iff_ne.mpr c19
    have c19b1 : (t110 != t114) = true := bne_iff_ne.mpr c19
    exact Bool.noConfusion ((Option.some.inj H).trans hr_.out)
  ·replace c18 := Bool.eq_false_iff.mpr c18
   subst c18
   have H1 : (some false) = some r := by rw [if_neg (show ¬ (false = true) by decide)] at H; exact H
   clear H;have H := H1
   clear H1;exact Bool.noConfusion ((Option.some.inj H).trans hr_.out)
 ·replace c16 := Bool.eq_false_iff.mpr c16
  subst c16
  have H1 : (some false) = some r := by rw [if_neg (show ¬ (false = true) by decide)] at H; exact H
  clear H;have H := H1
  clear H1;exact Bool.noConfusion ((Option.some.inj H).trans hr_.out)
end Go.Proofs.YtkefbljogjcodaaDoor.F
end
section
namespace Go.Proofs.YtkefbljogjcodaaDoor.F
open Go.RowKit Go.Proofs.YtkefbljogjcodaaDoorW.PrintWords Go.Proofs.YtkefbljogjcodaaDoorW.PrintLast Go.Proofs.YtkefbljogjcodaaDoorW.PrintMore
set_option linter.unusedVariables false
set_option linter.unusedSimpArgs false
structure OvS (w0 W : World) (gL glx gly cx cy : Nat) (A B : Option Addr) (x y out : List S26) (v : Value) : Prop where
 b : Below w0.heap.size w0 W
 rx : RowAt W A glx x
 ry : RowAt W B gly y
 hx : 0 < x.length → w0.heap.size ≤ glx
 hy : 0 < y.length → w0.heap.size ≤ gly
 xc : x.length ≤ cx
 xm : cx ≤ 9223372036854775807
 yc : y.length ≤ cy
 ym : cy ≤ 9223372036854775807
 n : 0 < x.length → 0 < y.length → glx ≠ gly
 c : W.heap[gL]? = some (.cells #[v] 27 (0, 0))
 hL : w0.heap.size ≤ gL
 o : Kd.R k26 26 W w0.heap.size (fun _ => True) v out
 nx : 0 < x.length → some glx ≠ v.ownBlock
 ny : 0 < y.length → some gly ≠ v.ownBlock
theorem RowAt.keep {W W' : World} {A : Option Addr} {gl : Nat} {l : List S26} (h : RowAt W A gl l) (hk : 0 < l.length → W'.heap[gl]? = W.heap[gl]?) : RowAt W' A gl l := fun hp => by
 obtain ⟨o, cur, e1, e2, e3⟩ := h hp
 exact ⟨o, cur, e1, (hk hp).trans e2, e3⟩
theorem RowAt.lt {W : World} {A : Option Addr} {gl : Nat} {l : List S26} (h : RowAt W A gl l) (hp : 0 < l.length) : gl < W.heap.size := by
 obtain ⟨_, _, _, e, _⟩ := h hp
 exact blk_lt e
theorem OvS.swap {w0 W : World} {gL glx gly cx cy : Nat} {A B : Option Addr} {x y out : List S26} {v : Value} (h : OvS w0 W gL glx gly cx cy A B x y out v) : OvS w0 W gL gly glx cy cx B A y x out v :=
 ⟨h.b, h.ry, h.rx, h.hy, h.hx, h.yc, h.ym, h.xc, h.xm, fun a b e => h.n b a e.symm, h.c, h.hL, h.o, h.ny, h.nx⟩
theorem OvS.below {w0 W W' : World} {gL glx gly cx cy : Nat} {A B : Option Addr} {x y out : List S26} {v : Value} (h : OvS w0 W gL glx gly cx cy A B x y out v) (hb : Below W.heap.size W W') : OvS w0 W' gL glx gly cx cy A B x y out v :=
 ⟨below_step h.b hb, h.rx.keep (fun hp => hb.block _ (h.rx.lt hp)), h.ry.keep (fun hp => hb.block _ (h.ry.lt hp)), h.hx, h.hy, h.xc, h.xm, h.yc, h.ym, h.n, blk_below h.c hb, h.hL, Kd.R_below h.o hb, h.nx, h.ny⟩
theorem OvS.far {w0 W : World} {gL glx gly cx cy : Nat} {A B : Option Addr} {x y out : List S26} {v : Value} (h : OvS w0 W gL glx gly cx cy A B x y out v) (hp : 0 < x.length) : glx ≠ gL := by
 obtain ⟨_, _, _, e, _⟩ := h.rx hp
 exact blk_ne e h.c (by decide)
theorem OvS.tail {w0 W : World} {gL glx gly cx cy : Nat} {A B A' : Option Addr} {s : S26} {x y out : List S26} {v : Value} (h : OvS w0 W gL glx gly cx cy A B (s :: x) y out v) (e : (if cx = 1 then A else A.map (·.add (1 * 3))) = A') : OvS w0 W gL glx gly (cx - 1) cy A' B x y out v :=
 ⟨h.b, by rw [← e]; exact row_tail h.rx h.xc, h.ry, fun _ => h.hx (by simp), h.hy, by have := h.xc; rw [List.length_cons] at this; omega, by have := h.xm; omega, h.yc, h.ym, fun _ hq => h.n (by simp) hq, h.c, h.hL, h.o, fun _ => h.nx (by simp), h.ny⟩
theorem OvS.append {w0 W w1 : World} {gL glx gly cx cy : Nat} {A B : Option Addr} {x y out out' : List S26} {v v1 : Value} (h : OvS w0 W gL glx gly cx cy A B x y out v) (ho : Kd.R k26 26 w1 w0.heap.size (fun _ => True) v1 out') (hb : Below w0.heap.size w0 w1) (hg : W.grownBy w1 v.ownBlock) (hat : v1.ownBlock = v.ownBlock ∨ ∃ b, v1.ownBlock = some b ∧ W.heap.size ≤ b) :
  OvS w0 (w1.setCell ⟨gL, 0, none⟩ v1) gL glx gly cx cy A B x y out' v1 := by
 have away : ∀ k, k < W.heap.size → some k ≠ v.ownBlock → some k ≠ v1.ownBlock := by
  intro k hk hn e;rcases hat with e1 | ⟨b, e1, hb⟩
  ·exact hn (e.trans e1)
  ·rw [e1] at e
   injection e with e
   omega
 have hc1 : w1.heap[gL]? = some (.cells #[v] 27 (0, 0)) := (hg.block gL (blk_lt h.c) (Kd.R_ne h.o h.c (by decide))).trans h.c
 have keep : ∀ k, k < W.heap.size → k ≠ gL → some k ≠ v.ownBlock → (w1.setCell ⟨gL, 0, none⟩ v1).heap[k]? = W.heap[k]? := fun k hk h1 h2 => (Below.heap_setCell w1 ⟨gL, 0, none⟩ v1 k h1).trans (hg.block k hk h2)
 exact ⟨hb.setCell (p := ⟨gL, 0, none⟩) h.hL _, h.rx.keep (fun hp => keep _ (h.rx.lt hp) (h.far hp) (h.nx hp)), h.ry.keep (fun hp => keep _ (h.ry.lt hp) (h.swap.far hp) (h.ny hp)), h.hx, h.hy, h.xc, h.xm, h.yc, h.ym, h.n, blk_put hc1 0 _ rfl, h.hL, Kd.R_set ho hc1 (by decide) 0 _, fun hp => away _ (h.rx.lt hp) (h.nx hp), fun hp => away _ (h.ry.lt hp) (h.ny hp)⟩
end Go.Proofs.YtkefbljogjcodaaDoor.F
end
