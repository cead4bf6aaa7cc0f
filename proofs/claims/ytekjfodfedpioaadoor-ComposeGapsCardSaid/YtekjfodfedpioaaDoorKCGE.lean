import Derived.Test.YtekjfodfedpioaaDoorKCGD
import Derived.Below
import Derived.Deep.Draws
import Derived.Deep.AppendLies
import Derived.Maps.AppendAt
import Derived.OwnWalk
import Derived.Laws.BytesArg
import Derived.Laws.MakeOwn
import Derived.Laws.OwnMore
import Derived.Deep.OwnRows
import Derived.Tactics
import Derived.Lib.ConvBytes
import Derived.Laws.Slices
import Derived.WalkKit
import Derived.KernelRfl
import Derived.RowKit3
import Derived.Deep.LoopGhost
import Derived.Deep.QuietTactic
import Derived.BigQuiet
import Derived.WideLaws
import Derived.Deep.DeepCutAuto
import Derived.Deep.CutBlock
import Derived.Deep.RegionHeld3
import Derived.Laws.Rows
import Derived.Lib.AppendStr
import Derived.ArgAppend
import Derived.Laws.IdiomCopy
import Derived.RowKit
import Derived.OrdersHeld
import Derived.Laws.BitsLemmas
import Derived.Laws.StructEq
import Derived.Test.YtekjfodfedpioaaDoorProg
import Derived.Handy
import Derived.Shelf.Unicode.DecodeSlow
import Derived.Ground.NamesProg
import Derived.Shelf.Unicode.ValidAny
import Derived.Laws.RangeString
import Derived.Laws.RangeAny
import Derived.Lib.RuneCount
import Derived.Laws.IdiomStrings
import Derived.Laws.Cover4
import Derived.Great.BuildSlice
import Derived.RangeFuncNested
import Derived.RangeFuncBound
import Derived.RangeFuncCalls
import Derived.RangeFuncLeaves
import Derived.Shelf.Abstract
import Derived.Shelf.RegionOpen
import Derived.OwnWalkIn
import Derived.TacticsInMore
import Derived.LoopNIn
import Derived.LoopIn
import Derived.Defers
section
namespace Go.Proofs.YtekjfodfedpioaaDoor.F
open Go.RowKit Go.Proofs.YtekjfodfedpioaaDoorW.PrintWords Go.Proofs.YtekjfodfedpioaaDoorW.PrintLast Go.Proofs.YtekjfodfedpioaaDoorW.PrintMore
attribute [local go_sem] max2_int min2_int max_two min_two max_three min_three max_four min_four cell_setCell_isSome
set_option linter.unusedVariables false
set_option linter.unusedSimpArgs false
open Kd
set_option maxHeartbeats 40000000 in
set_option maxRecDepth 100000 in
theorem epitomelaw09_ComposeGaps.calls (k : Nat) (A0 : Option Addr) (c0 : Nat) (l0 : List (S55)) (A1 : Option Addr) (c1 : Nat) (l1 : List (S55)) (a2 : Int) (r : Bool) (hr_ : Aside0 (r = true)) (w : World) (hG : Glob w) (hr0 : Kd.C k55 w A0 l0.length l0) (hc0 : l0.length ≤ c0) (hr1 : Kd.C k55 w A1 l1.length l1) (hc1 : l1.length ≤ c1) (h : epitomelaw09_ComposeGaps.f k l0 l1 a2 = some r) :
  Calls Tryd.prog 3 #[.slice A0 l0.length c0, .slice A1 l1.length c1, .int .u8 a2] w fun e w' => e = .returned (.bool r) ∧ Below w.heap.size w w' := by
 have hu32 := Tryd.underlying32
 have HG := Am hG;clear hG;have HR0 := Am hr0;have HC0 := Am hc0;clear hr0 hc0;have HR1 := Am hr1;have HC1 := Am hc1;clear hr1 hc1;have HB := Am (Below.refl w.heap.size w)
 have H : ((epitomelaw09_shown.f k).bind fun t101 => ((epitomeref04_Fit.f k l0 (wrap64 (Int.tmod a2 31))).bind fun t102 => ((op_Out.f k t102).bind fun t105 => ((epitomeref04_Fit.f k l1 t105).bind fun t106 => ((compose_Of.f k t102 t106).bind fun bt109 => ((gaps_Of.f k t102).bind fun bt113 => ((gaps_Of.f k t106).bind fun bt121 => ((gaps_Of.f k bt109.1).bind fun bt129 => (if t101 = true then (if bt109.2 = 0 then (if bt113.2.2 = 0 then (if bt121.2.2 = 0 then (if bt129.2.2 = 0 then ((op_Out.f k t102).bind fun t137 => (if (bt121.1.length : Int) = (wrap64 (t137 + 1)) then ((op_Out.f k t102).bind fun t138 => (epitomelaw09_ComposeGaps.j0 k t102 ((bt121.2.1.length : Int) != t138) bt113.1 bt113.2.1 bt121.1 bt121.2.1 bt129.1 bt129.2.1)) else (epitomelaw09_ComposeGaps.j0 k t102 true bt113.1 bt113.2.1 bt121.1 bt121.2.1 bt129.1 bt129.2.1))) else (epitomelaw09_ComposeGaps.j0 k t102 true bt113.1 bt113.2.1 bt121.1 bt121.2.1 bt129.1 bt129.2.1)) else (epitomelaw09_ComposeGaps.j0 k t102 true bt113.1 bt113.2.1 bt121.1 bt121.2.1 bt129.1 bt129.2.1)) else (epitomelaw09_ComposeGaps.j0 k t102 true bt113.1 bt113.2.1 bt121.1 bt121.2.1 bt129.1 bt129.2.1)) else (epitomelaw09_ComposeGaps.j0 k t102 true bt113.1 bt113.2.1 bt121.1 bt121.2.1 bt129.1 bt129.2.1)) else (epitomelaw09_ComposeGaps.j0 k t102 true bt113.1 bt113.2.1 bt121.1 bt121.2.1 bt129.1 bt129.2.1)))))))))) = some r := h
 clear h;replace H := Option.bind_eq_some_iff.mp H;obtain ⟨t101, A40, H⟩ := H;have A4 := Am A40;clear A40;replace H := Option.bind_eq_some_iff.mp H;obtain ⟨t102, A50, H⟩ := H;have A5 := Am A50;clear A50;replace H := Option.bind_eq_some_iff.mp H;obtain ⟨t105, A60, H⟩ := H;have A6 := Am A60;clear A60;replace H := Option.bind_eq_some_iff.mp H;obtain ⟨t106, A70, H⟩ := H;have A7 := Am A70;clear A70;replace H := Option.bind_eq_some_iff.mp H;obtain ⟨⟨t109, t110⟩, A80, H⟩ := H;have A8 := Am A80;clear A80;replace H := Option.bind_eq_some_iff.mp H;obtain ⟨⟨t113, t116, t119⟩, A90, H⟩ := H;have A9 := Am A90;clear A90;replace H := Option.bind_eq_some_iff.mp H;obtain ⟨⟨t121, t124, t127⟩, A100, H⟩ := H;have A10 := Am A100;clear A100;replace H := Option.bind_eq_some_iff.mp H;obtain ⟨⟨t129, t132, t135⟩, A110, H⟩ := H;have A11 := Am A110;clear A110;have HC12 := Am H;clear H;go_enter Tryd.func3, Tryd.ntmps3
 go_upto_region 8 with (first | ((with_reducible refine gate_callee (f := 9) rfl ?_); refine goesL_ (some 28) rfl rfl Tryd.func9 (by kernel_rfl) rfl #[] rfl zE ?_; (with_reducible refine (epitomelaw09_shown.calls k  t101 _ ?side1 A4.out).mono ?_); (case side1 => exact zg HG HB); rintro e w13 ⟨rfl, hb⟩; refine ⟨_, rfl, ?_⟩; replace HB := Am (below_step (zB HB) hb); (try clear hb)) | ((with_reducible refine gate_callee (f := 10) rfl ?_); refine goesL_ (some 33) rfl rfl Tryd.func10 (by kernel_rfl) rfl #[.slice A0 l0.length c0, .int .i64 (wrap64 (Int.tmod a2 31))] rfl zE ?_; (with_reducible refine (epitomeref04_Fit.calls k _ _ l0 (wrap64 (Int.tmod a2 31)) t102 _ ?side1 ?side2 A5.out).mono ?_); (case side1 => exact zI (C_below HR0.out HB.out)); (case side2 => exact HC0.out); rintro e w14 ⟨v103, rfl, ho0, hb⟩; refine ⟨_, rfl, ?_⟩; have HO104 := Am (R_lower ho0 (below_size (zB HB)));replace HB := Am (below_step (zB HB) hb); (try clear hb); (try clear ho0); obtain ⟨Ao15, co15, eo15⟩ := R_slice HO104.out; subst eo15) | ((with_reducible refine gate_callee (f := 11) rfl ?_); refine goesL_ (some 36) rfl rfl Tryd.func11 (by kernel_rfl) rfl #[.slice Ao15 t102.length co15] rfl zE ?_; (with_reducible refine (op_Out.calls k _ _ t102 t105 _ ?side1 ?side2 ?side3 A6.out).mono ?_); (case side1 => exact zg HG HB); (case side2 => exact zI (R_reads' HO104.out).2.2); (case side3 => exact (R_reads' HO104.out).2.1); rintro e w16 ⟨rfl, hb⟩; refine ⟨_, rfl, ?_⟩; replace HO104 := Am (R_below (zR HO104) hb);replace HB := Am (below_step (zB HB) hb); (try clear hb)) | ((with_reducible refine gate_callee (f := 10) rfl ?_); refine goesL_ (some 37) rfl rfl Tryd.func10 (by kernel_rfl) rfl #[.slice A1 l1.length c1, .int .i64 t105] rfl zE ?_; (with_reducible refine (epitomeref04_Fit.calls k _ _ l1 t105 t106 _ ?side1 ?side2 A7.out).mono ?_); (case side1 => exact zI (C_below HR1.out HB.out)); (case side2 => exact HC1.out); rintro e w17 ⟨v107, rfl, ho0, hb⟩; refine ⟨_, rfl, ?_⟩; have HO108 := Am (R_lower (zn ho0 HO104) (below_size (zB HB)));replace HO104 := Am (zr HO104 ho0 hb);replace HB := Am (below_step (zB HB) hb); (try clear hb); (try clear ho0); obtain ⟨Ao18, co18, eo18⟩ := R_slice HO108.out; subst eo18) | ((with_reducible refine gate_callee (f := 12) rfl ?_); refine goesL_ (some 41) rfl rfl Tryd.func12 (by kernel_rfl) rfl #[.slice Ao15 t102.length co15, .slice Ao18 t106.length co18] rfl zE ?_; (with_reducible refine (compose_Of.calls k _ _ t102 _ _ t106 t109 t110 _ ?side1 ?side2 ?side3 ?side4 ?side5 A8.out).mono ?_); (case side1 => exact zg HG HB); (case side2 => exact zI (R_reads' HO104.out).2.2); (case side3 => exact (R_reads' HO104.out).2.1); (case side4 => exact zI (R_reads' HO108.out).2.2); (case side5 => exact (R_reads' HO108.out).2.1); rintro e w19 ⟨v111, rfl, ho0, hb⟩; refine ⟨_, rfl, ?_⟩; have HO112 := Am (R_lower (zn (zn ho0 HO104) HO108) (below_size (zB HB)));replace HO104 := Am (zr HO104 ho0 hb);replace HO108 := Am (zr HO108 ho0 hb);replace HB := Am (below_step (zB HB) hb); (try clear hb); (try clear ho0)) | ((with_reducible refine gate_callee (f := 13) rfl ?_); refine goesL_ (some 46) rfl rfl Tryd.func13 (by kernel_rfl) rfl #[.slice Ao15 t102.length co15] rfl zE ?_; (with_reducible refine (gaps_Of.calls k _ _ t102 t113 t116 t119 _ ?side1 ?side2 ?side3 A9.out).mono ?_); (case side1 => exact zg HG HB); (case side2 => exact zI (R_reads' HO104.out).2.2); (case side3 => exact (R_reads' HO104.out).2.1); rintro e w20 ⟨v114, v117, rfl, ho0, ho1, hb⟩; refine ⟨_, rfl, ?_⟩; have HO115 := Am (Kd.V_lower (Kd.V_mono (ok' := fun k_ => some k_ ≠ (.slice Ao15 t102.length co15 : Value).ownBlock ∧ some k_ ≠ (.slice Ao18 t106.length co18 : Value).ownBlock ∧ some k_ ≠ (v111 : Value).ownBlock) ho0 (fun k_ hk_ => ⟨(Kd.fresh' (R_lt (zR HO104)) k_ hk_), (Kd.fresh' (R_lt (zR HO108)) k_ hk_), (Kd.fresh' (R_lt (zR HO112)) k_ hk_)⟩)) (below_size (zB HB)));have HO118 := Am (Kd.V_lower (Kd.V_mono (ok' := fun k_ => some k_ ≠ (.slice Ao15 t102.length co15 : Value).ownBlock ∧ some k_ ≠ (.slice Ao18 t106.length co18 : Value).ownBlock ∧ some k_ ≠ (v111 : Value).ownBlock) ho1 (fun k_ hk_ => ⟨(Kd.fresh' (R_lt (zR HO104)) k_ hk_), (Kd.fresh' (R_lt (zR HO108)) k_ hk_), (Kd.fresh' (R_lt (zR HO112)) k_ hk_)⟩)) (below_size (zB HB)));replace HO104 := Am (R_below (zR HO104) hb);replace HO108 := Am (R_below (zR HO108) hb);replace HO112 := Am (R_below (zR HO112) hb);replace HB := Am (below_step (zB HB) hb); (try clear hb); (try clear ho0); (try clear ho1)) | ((with_reducible refine gate_dst (N := 12) rfl ?_); (try (refine gate_guard (by rfl) ?_; dsimp only)); refine box_event ?hg (N := 12) ?hd (cs := #[.slice none 0 0, .slice none 0 0]) (t := 32) ?hr ?_; (case hd => rfl); (case hg => rfl); (case hr => first | (go_simp; done) | (go_simp; rfl)); intro gb120 hg w21 hbox hb; replace HO104 := Am (R_below (zR HO104) hb);replace HO108 := Am (R_below (zR HO108) hb);replace HO112 := Am (R_below (zR HO112) hb);replace HO115 := Am (Kd.V_below (Kd.V_elderB (zV HO115) gb120 (Nat.le_of_eq hg.symm)) hb);replace HO118 := Am (Kd.V_below (Kd.V_elderB (zV HO118) gb120 (Nat.le_of_eq hg.symm)) hb);have BK120 := Am (hbox);have GW120 := Am (zO (w := w) HB hg);have GE120 := Am (zO (w := w) HB hg);replace HB := Am (below_step (zB HB) hb); clear hb hbox hg; obtain ⟨Ao22, co22, eo22⟩ := Kd.V_slice HO115.out; subst eo22; obtain ⟨hcz23_0, hcz23_1, hfz23_0, hfz23_1⟩ := zc2 BK120; obtain ⟨Ao24, co24, eo24⟩ := Kd.V_slice HO118.out; subst eo24) | ((with_reducible refine gate_callee (f := 13) rfl ?_); refine goesL_ (some 51) rfl rfl Tryd.func13 (by kernel_rfl) rfl #[.slice Ao18 t106.length co18] rfl zE ?_; (with_reducible refine (gaps_Of.calls k _ _ t106 t121 t124 t127 _ ?side1 ?side2 ?side3 A10.out).mono ?_); (case side1 => exact zg HG HB); (case side2 => refine (R_reads' (e := 55) (base := w.heap.size) (ok := fun k_ => ((True ∧ some k_ ≠ (.slice Ao15 t102.length co15 : Value).ownBlock) ∧ some k_ ≠ (v111 : Value).ownBlock)) (n := t106.length) (c := co18) ?_).2.2; exact (by (with_reducible repeat (first | apply zA.a | apply zA.n | apply zA.d)); exact (zfr HO108 BK120 (.slice Ao22 t113.length co22) (.slice Ao24 t116.length co24)))); (case side3 => exact (R_reads' HO108.out).2.1); rintro e w25 ⟨v122, v125, rfl, ho0, ho1, hb⟩; refine ⟨_, rfl, ?_⟩; replace HO115 := Am (Kd.V_below (by (with_reducible repeat (first | apply Kd.V_alloc | apply Kd.V_drewN | apply Kd.V_drew)); exact (zfv HO115 gb120 (.slice Ao22 t113.length co22) (.slice Ao24 t116.length co24))) hb);replace HO118 := Am (Kd.V_below (by (with_reducible repeat (first | apply Kd.V_alloc | apply Kd.V_drewN | apply Kd.V_drew)); exact (zfv HO118 gb120 (.slice Ao22 t113.length co22) (.slice Ao24 t116.length co24))) hb);have HO123 := Am (Kd.V_lower (Kd.V_mono (ok' := fun k_ => some k_ ≠ (.slice Ao15 t102.length co15 : Value).ownBlock ∧ some k_ ≠ (.slice Ao18 t106.length co18 : Value).ownBlock ∧ some k_ ≠ (v111 : Value).ownBlock ∧ k_ ≠ gb120) ho0 (fun k_ hk_ => ⟨(Kd.fresh' (R_lt (by (with_reducible repeat (first | apply zA.a | apply zA.n | apply zA.d)); exact (zfr HO104 BK120 (.slice Ao22 t113.length co22) (.slice Ao24 t116.length co24)))) k_ hk_), (Kd.fresh' (R_lt (by (with_reducible repeat (first | apply zA.a | apply zA.n | apply zA.d)); exact (zfr HO108 BK120 (.slice Ao22 t113.length co22) (.slice Ao24 t116.length co24)))) k_ hk_), (Kd.fresh' (R_lt (by (with_reducible repeat (first | apply zA.a | apply zA.n | apply zA.d)); exact (zfr HO112 BK120 (.slice Ao22 t113.length co22) (.slice Ao24 t116.length co24)))) k_ hk_), (Kd.freshB (g := gb120) (o := .cells #[.slice Ao22 t113.length co22, .slice Ao24 t116.length co24] 32 (0, 0)) (zP BK120) k_ hk_)⟩)) (below_size (zB HB)));have HO126 := Am (Kd.V_lower (Kd.V_mono (ok' := fun k_ => some k_ ≠ (.slice Ao15 t102.length co15 : Value).ownBlock ∧ some k_ ≠ (.slice Ao18 t106.length co18 : Value).ownBlock ∧ some k_ ≠ (v111 : Value).ownBlock ∧ k_ ≠ gb120) ho1 (fun k_ hk_ => ⟨(Kd.fresh' (R_lt (by (with_reducible repeat (first | apply zA.a | apply zA.n | apply zA.d)); exact (zfr HO104 BK120 (.slice Ao22 t113.length co22) (.slice Ao24 t116.length co24)))) k_ hk_), (Kd.fresh' (R_lt (by (with_reducible repeat (first | apply zA.a | apply zA.n | apply zA.d)); exact (zfr HO108 BK120 (.slice Ao22 t113.length co22) (.slice Ao24 t116.length co24)))) k_ hk_), (Kd.fresh' (R_lt (by (with_reducible repeat (first | apply zA.a | apply zA.n | apply zA.d)); exact (zfr HO112 BK120 (.slice Ao22 t113.length co22) (.slice Ao24 t116.length co24)))) k_ hk_), (Kd.freshB (g := gb120) (o := .cells #[.slice Ao22 t113.length co22, .slice Ao24 t116.length co24] 32 (0, 0)) (zP BK120) k_ hk_)⟩)) (below_size (zB HB)));replace HO104 := Am (R_below (by (with_reducible repeat (first | apply zA.a | apply zA.n | apply zA.d)); exact (zfr HO104 BK120 (.slice Ao22 t113.length co22) (.slice Ao24 t116.length co24))) hb);replace HO108 := Am (R_below (by (with_reducible repeat (first | apply zA.a | apply zA.n | apply zA.d)); exact (zfr HO108 BK120 (.slice Ao22 t113.length co22) (.slice Ao24 t116.length co24))) hb);replace HO112 := Am (R_below (by (with_reducible repeat (first | apply zA.a | apply zA.n | apply zA.d)); exact (zfr HO112 BK120 (.slice Ao22 t113.length co22) (.slice Ao24 t116.length co24))) hb);replace BK120 := Am (blk_below (g := gb120) (o := .cells #[.slice Ao22 t113.length co22, .slice Ao24 t116.length co24] 32 (0, 0)) (zP BK120) hb);replace HB := Am (below_step (zB HB) hb); (try clear hb); (try clear ho0); (try clear ho1)) | ((with_reducible refine gate_dst (N := 14) rfl ?_); (try (refine gate_guard (by rfl) ?_; dsimp only)); refine box_event ?hg (N := 14) ?hd (cs := #[.slice none 0 0, .slice none 0 0]) (t := 32) ?hr ?_; (case hd => rfl); (case hg => rfl); (case hr => first | (go_simp; done) | (go_simp; rfl)); intro gb128 hg w26 hbox hb; replace HO104 := Am (R_below (zR HO104) hb);replace HO108 := Am (R_below (zR HO108) hb);replace HO112 := Am (R_below (zR HO112) hb);replace HO115 := Am (Kd.V_below (Kd.V_elderB (zV HO115) gb128 (Nat.le_of_eq hg.symm)) hb);replace HO118 := Am (Kd.V_below (Kd.V_elderB (zV HO118) gb128 (Nat.le_of_eq hg.symm)) hb);replace HO123 := Am (Kd.V_below (Kd.V_elderB (zV HO123) gb128 (Nat.le_of_eq hg.symm)) hb);replace HO126 := Am (Kd.V_below (Kd.V_elderB (zV HO126) gb128 (Nat.le_of_eq hg.symm)) hb);have BK128 := Am (hbox);have GW128 := Am (zO (w := w) HB hg);have GE128 := Am (zO (w := w) HB hg);replace HB := Am (below_step (zB HB) hb);have NB120_128 := Am ((by rw [hg]; exact Nat.ne_of_lt (zL BK120) : gb120 ≠ gb128));have NB128_120 := Am ((by rw [hg]; exact Nat.ne_of_gt (zL BK120) : gb128 ≠ gb120));replace BK120 := Am (zU BK120 hb); clear hb hbox hg; obtain ⟨Ao27, co27, eo27⟩ := Kd.V_slice HO123.out; subst eo27; have hnb28 := NB128_120.out; have hnc28 := NB120_128.out; obtain ⟨hcz29_0, hcz29_1, hfz29_0, hfz29_1⟩ := zc2 BK128; obtain ⟨Ao30, co30, eo30⟩ := Kd.V_slice HO126.out; subst eo30; obtain ⟨Ao31, co31, eo31⟩ := R_slice HO112.out; subst eo31) | ((with_reducible refine gate_callee (f := 13) rfl ?_); refine goesL_ (some 56) rfl rfl Tryd.func13 (by kernel_rfl) rfl #[.slice Ao31 t109.length co31] rfl zE ?_; (with_reducible refine (gaps_Of.calls k _ _ t109 t129 t132 t135 _ ?side1 ?side2 ?side3 A11.out).mono ?_); (case side1 => exact zg HG HB); (case side2 => refine (R_reads' (e := 55) (base := w.heap.size) (ok := fun k_ => ((True ∧ some k_ ≠ (.slice Ao15 t102.length co15 : Value).ownBlock) ∧ some k_ ≠ (.slice Ao18 t106.length co18 : Value).ownBlock)) (n := t109.length) (c := co31) ?_).2.2; exact (by (with_reducible repeat (first | apply zA.a | apply zA.n | apply zA.d)); exact (zfr HO112 BK128 (.slice Ao27 t121.length co27) (.slice Ao30 t124.length co30)))); (case side3 => exact (R_reads' HO112.out).2.1); rintro e w32 ⟨v130, v133, rfl, ho0, ho1, hb⟩; refine ⟨_, rfl, ?_⟩; replace HO115 := Am (Kd.V_below (by (with_reducible repeat (first | apply Kd.V_alloc | apply Kd.V_drewN | apply Kd.V_drew)); exact (zfv HO115 gb128 (.slice Ao27 t121.length co27) (.slice Ao30 t124.length co30))) hb);replace HO118 := Am (Kd.V_below (by (with_reducible repeat (first | apply Kd.V_alloc | apply Kd.V_drewN | apply Kd.V_drew)); exact (zfv HO118 gb128 (.slice Ao27 t121.length co27) (.slice Ao30 t124.length co30))) hb);replace HO123 := Am (Kd.V_below (by (with_reducible repeat (first | apply Kd.V_alloc | apply Kd.V_drewN | apply Kd.V_drew)); exact (zfv HO123 gb128 (.slice Ao27 t121.length co27) (.slice Ao30 t124.length co30))) hb);replace HO126 := Am (Kd.V_below (by (with_reducible repeat (first | apply Kd.V_alloc | apply Kd.V_drewN | apply Kd.V_drew)); exact (zfv HO126 gb128 (.slice Ao27 t121.length co27) (.slice Ao30 t124.length co30))) hb);have HO131 := Am (Kd.V_lower (Kd.V_mono (ok' := fun k_ => some k_ ≠ (.slice Ao15 t102.length co15 : Value).ownBlock ∧ some k_ ≠ (.slice Ao18 t106.length co18 : Value).ownBlock ∧ some k_ ≠ (.slice Ao31 t109.length co31 : Value).ownBlock ∧ k_ ≠ gb120 ∧ k_ ≠ gb128) ho0 (fun k_ hk_ => ⟨(Kd.fresh' (R_lt (by (with_reducible repeat (first | apply zA.a | apply zA.n | apply zA.d)); exact (zfr HO104 BK128 (.slice Ao27 t121.length co27) (.slice Ao30 t124.length co30)))) k_ hk_), (Kd.fresh' (R_lt (by (with_reducible repeat (first | apply zA.a | apply zA.n | apply zA.d)); exact (zfr HO108 BK128 (.slice Ao27 t121.length co27) (.slice Ao30 t124.length co30)))) k_ hk_), (Kd.fresh' (R_lt (by (with_reducible repeat (first | apply zA.a | apply zA.n | apply zA.d)); exact (zfr HO112 BK128 (.slice Ao27 t121.length co27) (.slice Ao30 t124.length co30)))) k_ hk_), (zm BK120 k_ hk_), (Kd.freshB (g := gb128) (o := .cells #[.slice Ao27 t121.length co27, .slice Ao30 t124.length co30] 32 (0, 0)) (zP BK128) k_ hk_)⟩)) (below_size (zB HB)));have HO134 := Am (Kd.V_lower (Kd.V_mono (ok' := fun k_ => some k_ ≠ (.slice Ao15 t102.length co15 : Value).ownBlock ∧ some k_ ≠ (.slice Ao18 t106.length co18 : Value).ownBlock ∧ some k_ ≠ (.slice Ao31 t109.length co31 : Value).ownBlock ∧ k_ ≠ gb120 ∧ k_ ≠ gb128) ho1 (fun k_ hk_ => ⟨(Kd.fresh' (R_lt (by (with_reducible repeat (first | apply zA.a | apply zA.n | apply zA.d)); exact (zfr HO104 BK128 (.slice Ao27 t121.length co27) (.slice Ao30 t124.length co30)))) k_ hk_), (Kd.fresh' (R_lt (by (with_reducible repeat (first | apply zA.a | apply zA.n | apply zA.d)); exact (zfr HO108 BK128 (.slice Ao27 t121.length co27) (.slice Ao30 t124.length co30)))) k_ hk_), (Kd.fresh' (R_lt (by (with_reducible repeat (first | apply zA.a | apply zA.n | apply zA.d)); exact (zfr HO112 BK128 (.slice Ao27 t121.length co27) (.slice Ao30 t124.length co30)))) k_ hk_), (zm BK120 k_ hk_), (Kd.freshB (g := gb128) (o := .cells #[.slice Ao27 t121.length co27, .slice Ao30 t124.length co30] 32 (0, 0)) (zP BK128) k_ hk_)⟩)) (below_size (zB HB)));replace HO104 := Am (R_below (by (with_reducible repeat (first | apply zA.a | apply zA.n | apply zA.d)); exact (zfr HO104 BK128 (.slice Ao27 t121.length co27) (.slice Ao30 t124.length co30))) hb);replace HO108 := Am (R_below (by (with_reducible repeat (first | apply zA.a | apply zA.n | apply zA.d)); exact (zfr HO108 BK128 (.slice Ao27 t121.length co27) (.slice Ao30 t124.length co30))) hb);replace HO112 := Am (R_below (by (with_reducible repeat (first | apply zA.a | apply zA.n | apply zA.d)); exact (zfr HO112 BK128 (.slice Ao27 t121.length co27) (.slice Ao30 t124.length co30))) hb);replace BK120 := Am (zU BK120 hb);replace BK128 := Am (blk_below (g := gb128) (o := .cells #[.slice Ao27 t121.length co27, .slice Ao30 t124.length co30] 32 (0, 0)) (zP BK128) hb);replace HB := Am (below_step (zB HB) hb); (try clear hb); (try clear ho0); (try clear ho1)) | ((with_reducible refine gate_dst (N := 16) rfl ?_); (try (refine gate_guard (by rfl) ?_; dsimp only)); refine box_event ?hg (N := 16) ?hd (cs := #[.slice none 0 0, .slice none 0 0]) (t := 32) ?hr ?_; (case hd => rfl); (case hg => rfl); (case hr => first | (go_simp; done) | (go_simp; rfl)); intro gb136 hg w33 hbox hb; replace HO104 := Am (R_below (zR HO104) hb);replace HO108 := Am (R_below (zR HO108) hb);replace HO112 := Am (R_below (zR HO112) hb);replace HO115 := Am (Kd.V_below (Kd.V_elderB (zV HO115) gb136 (Nat.le_of_eq hg.symm)) hb);replace HO118 := Am (Kd.V_below (Kd.V_elderB (zV HO118) gb136 (Nat.le_of_eq hg.symm)) hb);replace HO123 := Am (Kd.V_below (Kd.V_elderB (zV HO123) gb136 (Nat.le_of_eq hg.symm)) hb);replace HO126 := Am (Kd.V_below (Kd.V_elderB (zV HO126) gb136 (Nat.le_of_eq hg.symm)) hb);replace HO131 := Am (Kd.V_below (Kd.V_elderB (zV HO131) gb136 (Nat.le_of_eq hg.symm)) hb);replace HO134 := Am (Kd.V_below (Kd.V_elderB (zV HO134) gb136 (Nat.le_of_eq hg.symm)) hb);have BK136 := Am (hbox);have GW136 := Am (zO (w := w) HB hg);have GE136 := Am (zO (w := w) HB hg);replace HB := Am (below_step (zB HB) hb);have NB120_136 := Am ((by rw [hg]; exact Nat.ne_of_lt (zL BK120) : gb120 ≠ gb136));have NB136_120 := Am ((by rw [hg]; exact Nat.ne_of_gt (zL BK120) : gb136 ≠ gb120));replace BK120 := Am (zU BK120 hb);have NB128_136 := Am ((by rw [hg]; exact Nat.ne_of_lt (zL BK128) : gb128 ≠ gb136));have NB136_128 := Am ((by rw [hg]; exact Nat.ne_of_gt (zL BK128) : gb136 ≠ gb128));replace BK128 := Am (zU BK128 hb); clear hb hbox hg; obtain ⟨Ao34, co34, eo34⟩ := Kd.V_slice HO131.out; subst eo34; have hnb35 := NB136_120.out; have hnc35 := NB120_136.out; have hnb36 := NB136_128.out; have hnc36 := NB128_136.out; obtain ⟨hcz37_0, hcz37_1, hfz37_0, hfz37_1⟩ := zc2 BK136; obtain ⟨Ao38, co38, eo38⟩ := Kd.V_slice HO134.out; subst eo38))
 (try simp only [Act.put, zS])
 go_cut [93] (fun v93 wc => ∃ (kq : Nat) (x93_11 : Bool), v93 = .bool x93_11 ∧ (fun (ok_ : Nat → Prop) => Aside0 (epitomelaw09_ComposeGaps.j0 kq t102 x93_11 t113 t116 t121 t124 t129 t132 = some r) ∧ Aside0 (kq ≤ k) ∧ Aside0 (Kd.R k55 55 wc w.heap.size (fun _ => True) (.slice Ao15 t102.length co15) t102) ∧ Aside0 (Kd.V Kd.string 9 wc w.heap.size ok_ (.slice Ao22 t113.length co22) t113) ∧ Aside0 (Kd.V Kd.bool 4 wc w.heap.size ok_ (.slice Ao24 t116.length co24) t116) ∧ Aside0 (Kd.V Kd.string 9 wc w.heap.size ok_ (.slice Ao27 t121.length co27) t121) ∧ Aside0 (Kd.V Kd.bool 4 wc w.heap.size ok_ (.slice Ao30 t124.length co30) t124) ∧ Aside0 (Kd.V Kd.string 9 wc w.heap.size ok_ (.slice Ao34 t129.length co34) t129) ∧ Aside0 (Kd.V Kd.bool 4 wc w.heap.size ok_ (.slice Ao38 t132.length co38) t132) ∧ Aside0 (wc.heap[gb120]? = some (.cells #[(.slice Ao22 t113.length co22), (.slice Ao24 t116.length co24)] 32 (0, 0))) ∧ Aside0 (wc.heap[gb128]? = some (.cells #[(.slice Ao27 t121.length co27), (.slice Ao30 t124.length co30)] 32 (0, 0))) ∧ Aside0 (wc.heap[gb136]? = some (.cells #[(.slice Ao34 t129.length co34), (.slice Ao38 t132.length co38)] 32 (0, 0))) ∧ Aside0 (Below w.heap.size w wc)) (fun k_ => some k_ ≠ ((.slice Ao15 t102.length co15) : Value).ownBlock ∧ k_ ≠ gb120 ∧ k_ ≠ gb128 ∧ k_ ≠ gb136))
 case first =>
  have H := HC12.out;clear HC12;by_cases c39 : t101 = true
  rotate_left
  ·replace c39 := Bool.eq_false_iff.mpr c39
   subst c39
   have H1 : (epitomelaw09_ComposeGaps.j0 k t102 true t113 t116 t121 t124 t129 t132) = some r := by rw [if_neg (show ¬ (false = true) by decide)] at H; exact H
   clear H;have H := H1
   clear H1;exact absurd (H.trans (congrArg some hr_.out)) (jno0_ _ _ _ _ _ _ _ _)
  subst c39
  have H1 : (if t110 = 0 then (if t119 = 0 then (if t127 = 0 then (if t135 = 0 then ((op_Out.f k t102).bind fun t137 => (if (t121.length : Int) = (wrap64 (t137 + 1)) then ((op_Out.f k t102).bind fun t138 => (epitomelaw09_ComposeGaps.j0 k t102 ((t124.length : Int) != t138) t113 t116 t121 t124 t129 t132)) else (epitomelaw09_ComposeGaps.j0 k t102 true t113 t116 t121 t124 t129 t132))) else (epitomelaw09_ComposeGaps.j0 k t102 true t113 t116 t121 t124 t129 t132)) else (epitomelaw09_ComposeGaps.j0 k t102 true t113 t116 t121 t124 t129 t132)) else (epitomelaw09_ComposeGaps.j0 k t102 true t113 t116 t121 t124 t129 t132)) else (epitomelaw09_ComposeGaps.j0 k t102 true t113 t116 t121 t124 t129 t132)) = some r := by rw [if_pos rfl] at H; exact H
  clear H;have H := H1
  clear H1;by_cases c40 : t110 = 0
  rotate_left
  ·rw [if_neg c40] at H;have c40b0 : (t110 == 0) = false := beq_eq_false_iff_ne.mpr c40
   have c40b1 : (t110 != 0) = true := bne_iff_ne.mpr c40
   (first | rw [c40b0] | (simp only [i64_w, i32_w]; rw [c40b0]) | skip)
   exact absurd (H.trans (congrArg some hr_.out)) (jno0_ _ _ _ _ _ _ _ _)
  rw [if_pos c40] at H;have c40b0 : (t110 == 0) = true := beq_iff_eq.mpr c40
  have c40b1 : (t110 != 0) = false := bne_eq_false_iff_eq.mpr c40
  clear c40;(first | rw [c40b0] | (simp only [i64_w, i32_w]; rw [c40b0]) | skip)
  by_cases c41 : t119 = 0
  rotate_left
  ·rw [if_neg c41] at H;have c41b0 : (t119 == 0) = false := beq_eq_false_iff_ne.mpr c41
   have c41b1 : (t119 != 0) = true := bne_iff_ne.mpr c41
   exact absurd (H.trans (congrArg some hr_.out)) (jno0_ _ _ _ _ _ _ _ _)
  rw [if_pos c41] at H;have c41b0 : (t119 == 0) = true := beq_iff_eq.mpr c41
  have c41b1 : (t119 != 0) = false := bne_eq_false_iff_eq.mpr c41
  clear c41;by_cases c42 : t127 = 0
  rotate_left
  ·rw [if_neg c42] at H;have c42b0 : (t127 == 0) = false := beq_eq_false_iff_ne.mpr c42
   have c42b1 : (t127 != 0) = true := bne_iff_ne.mpr c42
   exact absurd (H.trans (congrArg some hr_.out)) (jno0_ _ _ _ _ _ _ _ _)
  rw [if_pos c42] at H;have c42b0 : (t127 == 0) = true := beq_iff_eq.mpr c42
  have c42b1 : (t127 != 0) = false := bne_eq_false_iff_eq.mpr c42
  clear c42;by_cases c43 : t135 = 0
  rotate_left
  ·rw [if_neg c43] at H;have c43b0 : (t135 == 0) = false := beq_eq_false_iff_ne.mpr c43
   have c43b1 : (t135 != 0) = true := bne_iff_ne.mpr c43
   exact absurd (H.trans (congrArg some hr_.out)) (jno0_ _ _ _ _ _ _ _ _)
  rw [if_pos c43] at H;have c43b0 : (t135 == 0) = true := beq_iff_eq.mpr c43
  have c43b1 : (t135 != 0) = false := bne_eq_false_iff_eq.mpr c43
  clear c43;replace H := Option.bind_eq_some_iff.mp H;obtain ⟨t137, A440, H⟩ := H;have A44 := Am A440;clear A440;by_cases c45 : (t121.length : Int) = (wrap64 (t137 + 1))
  rotate_left
  ·rw [if_neg c45] at H;have c45b0 : ((t121.length : Int) == (wrap64 (t137 + 1))) = false := beq_eq_false_iff_ne.mpr c45
   have c45b1 : ((t121.length : Int) != (wrap64 (t137 + 1))) = true := bne_iff_ne.mpr c45
   exact absurd (H.trans (congrArg some hr_.out)) (jno0_ _ _ _ _ _ _ _ _)
  rw [if_pos c45] at H;have c45b0 : ((t121.length : Int) == (wrap64 (t137 + 1))) = true := beq_iff_eq.mpr c45
  have c45b1 : ((t121.length : Int) != (wrap64 (t137 + 1))) = false := bne_eq_false_iff_eq.mpr c45
  clear c45;replace H := Option.bind_eq_some_iff.mp H;obtain ⟨t138, A460, H⟩ := H;have A46 := Am A460;clear A460;have H' := Am H
  clear H;try go_wp2
  have n0_ : Aside0 (Kd.R k55 55 ((w33.setCell ⟨gb136, 0, none⟩ (.slice Ao34 t129.length co34)).setCell ⟨gb136, 1, none⟩ (.slice Ao38 t132.length co38)) w.heap.size (fun k_ => some k_ ≠ (.slice Ao18 t106.length co18 : Value).ownBlock ∧ some k_ ≠ (.slice Ao31 t109.length co31 : Value).ownBlock) (.slice Ao15 t102.length co15) t102) := ⟨by (with_reducible repeat (first | apply zA.a | apply zA.n | apply zA.d)); exact R_mono (R_far (p := ⟨gb136, 1, none⟩) (R_far (p := ⟨gb136, 0, none⟩) (R_types HO104.out BK136.out (by decide)) (fun _ hk => hk.2) (.slice Ao34 t129.length co34)) (fun _ hk => hk.2) (.slice Ao38 t132.length co38)) zp⟩
  have n1_ : Aside0 (Kd.R k55 55 ((w33.setCell ⟨gb136, 0, none⟩ (.slice Ao34 t129.length co34)).setCell ⟨gb136, 1, none⟩ (.slice Ao38 t132.length co38)) w.heap.size (fun k_ => some k_ ≠ (.slice Ao15 t102.length co15 : Value).ownBlock ∧ some k_ ≠ (.slice Ao31 t109.length co31 : Value).ownBlock) (.slice Ao18 t106.length co18) t106) := ⟨by (with_reducible repeat (first | apply zA.a | apply zA.n | apply zA.d)); exact R_mono (R_far (p := ⟨gb136, 1, none⟩) (R_far (p := ⟨gb136, 0, none⟩) (R_types HO108.out BK136.out (by decide)) (fun _ hk => hk.2) (.slice Ao34 t129.length co34)) (fun _ hk => hk.2) (.slice Ao38 t132.length co38)) zp⟩
  have n2_ : Aside0 (Kd.R k55 55 ((w33.setCell ⟨gb136, 0, none⟩ (.slice Ao34 t129.length co34)).setCell ⟨gb136, 1, none⟩ (.slice Ao38 t132.length co38)) w.heap.size (fun k_ => some k_ ≠ (.slice Ao15 t102.length co15 : Value).ownBlock ∧ some k_ ≠ (.slice Ao18 t106.length co18 : Value).ownBlock) (.slice Ao31 t109.length co31) t109) := ⟨by (with_reducible repeat (first | apply zA.a | apply zA.n | apply zA.d)); exact R_mono (R_far (p := ⟨gb136, 1, none⟩) (R_far (p := ⟨gb136, 0, none⟩) (R_types HO112.out BK136.out (by decide)) (fun _ hk => hk.2) (.slice Ao34 t129.length co34)) (fun _ hk => hk.2) (.slice Ao38 t132.length co38)) zp⟩
  have n3_ : Aside0 (Kd.V Kd.string 9 ((w33.setCell ⟨gb136, 0, none⟩ (.slice Ao34 t129.length co34)).setCell ⟨gb136, 1, none⟩ (.slice Ao38 t132.length co38)) w.heap.size (fun k_ => some k_ ≠ (.slice Ao15 t102.length co15 : Value).ownBlock ∧ some k_ ≠ (.slice Ao18 t106.length co18 : Value).ownBlock ∧ some k_ ≠ (.slice Ao31 t109.length co31 : Value).ownBlock ∧ k_ ≠ gb120 ∧ k_ ≠ gb128 ∧ k_ ≠ gb136) (.slice Ao22 t113.length co22) t113) := ⟨zfw HO115 gb136 (.slice Ao34 t129.length co34) (.slice Ao38 t132.length co38)⟩
  have n4_ : Aside0 (Kd.V Kd.bool 4 ((w33.setCell ⟨gb136, 0, none⟩ (.slice Ao34 t129.length co34)).setCell ⟨gb136, 1, none⟩ (.slice Ao38 t132.length co38)) w.heap.size (fun k_ => some k_ ≠ (.slice Ao15 t102.length co15 : Value).ownBlock ∧ some k_ ≠ (.slice Ao18 t106.length co18 : Value).ownBlock ∧ some k_ ≠ (.slice Ao31 t109.length co31 : Value).ownBlock ∧ k_ ≠ gb120 ∧ k_ ≠ gb128 ∧ k_ ≠ gb136) (.slice Ao24 t116.length co24) t116) := ⟨zfw HO118 gb136 (.slice Ao34 t129.length co34) (.slice Ao38 t132.length co38)⟩
  have n5_ : Aside0 (Kd.V Kd.string 9 ((w33.setCell ⟨gb136, 0, none⟩ (.slice Ao34 t129.length co34)).setCell ⟨gb136, 1, none⟩ (.slice Ao38 t132.length co38)) w.heap.size (fun k_ => some k_ ≠ (.slice Ao15 t102.length co15 : Value).ownBlock ∧ some k_ ≠ (.slice Ao18 t106.length co18 : Value).ownBlock ∧ some k_ ≠ (.slice Ao31 t109.length co31 : Value).ownBlock ∧ k_ ≠ gb120 ∧ k_ ≠ gb128 ∧ k_ ≠ gb136) (.slice Ao27 t121.length co27) t121) := ⟨zfw HO123 gb136 (.slice Ao34 t129.length co34) (.slice Ao38 t132.length co38)⟩
  have n6_ : Aside0 (Kd.V Kd.bool 4 ((w33.setCell ⟨gb136, 0, none⟩ (.slice Ao34 t129.length co34)).setCell ⟨gb136, 1, none⟩ (.slice Ao38 t132.length co38)) w.heap.size (fun k_ => some k_ ≠ (.slice Ao15 t102.length co15 : Value).ownBlock ∧ some k_ ≠ (.slice Ao18 t106.length co18 : Value).ownBlock ∧ some k_ ≠ (.slice Ao31 t109.length co31 : Value).ownBlock ∧ k_ ≠ gb120 ∧ k_ ≠ gb128 ∧ k_ ≠ gb136) (.slice Ao30 t124.length co30) t124) := ⟨zfw HO126 gb136 (.slice Ao34 t129.length co34) (.slice Ao38 t132.length co38)⟩
  have n7_ : Aside0 (Kd.V Kd.string 9 ((w33.setCell ⟨gb136, 0, none⟩ (.slice Ao34 t129.length co34)).setCell ⟨gb136, 1, none⟩ (.slice Ao38 t132.length co38)) w.heap.size (fun k_ => some k_ ≠ (.slice Ao15 t102.length co15 : Value).ownBlock ∧ some k_ ≠ (.slice Ao18 t106.length co18 : Value).ownBlock ∧ some k_ ≠ (.slice Ao31 t109.length co31 : Value).ownBlock ∧ k_ ≠ gb120 ∧ k_ ≠ gb128 ∧ k_ ≠ gb136) (.slice Ao34 t129.length co34) t129) := ⟨zfw HO131 gb136 (.slice Ao34 t129.length co34) (.slice Ao38 t132.length co38)⟩
  have n8_ : Aside0 (Kd.V Kd.bool 4 ((w33.setCell ⟨gb136, 0, none⟩ (.slice Ao34 t129.length co34)).setCell ⟨gb136, 1, none⟩ (.slice Ao38 t132.length co38)) w.heap.size (fun k_ => some k_ ≠ (.slice Ao15 t102.length co15 : Value).ownBlock ∧ some k_ ≠ (.slice Ao18 t106.length co18 : Value).ownBlock ∧ some k_ ≠ (.slice Ao31 t109.length co31 : Value).ownBlock ∧ k_ ≠ gb120 ∧ k_ ≠ gb128 ∧ k_ ≠ gb136) (.slice Ao38 t132.length co38) t132) := ⟨zfw HO134 gb136 (.slice Ao34 t129.length co34) (.slice Ao38 t132.length co38)⟩
  have n9_ : Aside0 (((w33.setCell ⟨gb136, 0, none⟩ (.slice Ao34 t129.length co34)).setCell ⟨gb136, 1, none⟩ (.slice Ao38 t132.length co38)).heap[gb120]? = some (.cells #[.slice Ao22 t113.length co22, .slice Ao24 t116.length co24] 32 (0, 0))) := ⟨(zK BK120)⟩
  have n10_ : Aside0 (((w33.setCell ⟨gb136, 0, none⟩ (.slice Ao34 t129.length co34)).setCell ⟨gb136, 1, none⟩ (.slice Ao38 t132.length co38)).heap[gb128]? = some (.cells #[.slice Ao27 t121.length co27, .slice Ao30 t124.length co30] 32 (0, 0))) := ⟨(zK BK128)⟩
  have n11_ : Aside0 (((w33.setCell ⟨gb136, 0, none⟩ (.slice Ao34 t129.length co34)).setCell ⟨gb136, 1, none⟩ (.slice Ao38 t132.length co38)).heap[gb136]? = some (.cells #[.slice Ao34 t129.length co34, .slice Ao38 t132.length co38] 32 (0, 0))) := ⟨(zP BK136)⟩
  have n12_ : Aside0 (Below w.heap.size w ((w33.setCell ⟨gb136, 0, none⟩ (.slice Ao34 t129.length co34)).setCell ⟨gb136, 1, none⟩ (.slice Ao38 t132.length co38))) := ⟨(zB HB)⟩
  (try clear HO104);(try clear HO108);(try clear HO112);(try clear HO115);(try clear HO118);(try clear HO123);(try clear HO126);(try clear HO131);(try clear HO134);(try clear BK120);(try clear BK128);(try clear BK136);(try clear HB);generalize ((w33.setCell ⟨gb136, 0, none⟩ (.slice Ao34 t129.length co34)).setCell ⟨gb136, 1, none⟩ (.slice Ao38 t132.length co38)) = w47 at n0_ n1_ n2_ n3_ n4_ n5_ n6_ n7_ n8_ n9_ n10_ n11_ n12_ ⊢
  have HO104 := n0_;have HO108 := n1_;have HO112 := n2_;have HO115 := n3_;have HO118 := n4_;have HO123 := n5_;have HO126 := n6_;have HO131 := n7_;have HO134 := n8_;have BK120 := n9_;have BK128 := n10_;have BK136 := n11_;have HB := n12_;clear n0_ n1_ n2_ n3_ n4_ n5_ n6_ n7_ n8_ n9_ n10_ n11_ n12_;replace HO104 := Am (R_drew HO104.out);replace HO108 := Am (R_drew HO108.out);replace HO112 := Am (R_drew HO112.out);replace HO115 := Am (Kd.V_drew HO115.out);replace HO118 := Am (Kd.V_drew HO118.out);replace HO123 := Am (Kd.V_drew HO123.out);replace HO126 := Am (Kd.V_drew HO126.out);replace HO131 := Am (Kd.V_drew HO131.out);replace HO134 := Am (Kd.V_drew HO134.out);replace BK120 := Am (blk_drew BK120.out);replace BK128 := Am (blk_drew BK128.out);replace BK136 := Am (blk_drew BK136.out);replace HB := Am (below_drew1 HB.out);refine start_ (n := 35) (S := fun w' => w'.cell? ⟨gb128, 0, none⟩ = some (.slice Ao27 t121.length co27) ∧ w'.cell? ⟨gb128, 1, none⟩ = some (.slice Ao30 t124.length co30)) (ds := []) #[zu, zu, zu, zu, zu, zu, zu, zu, zu, zu, zu, zu, zu, zu, zu, zu, zu, zu, zu, zu, zu, zu, zu, zu, zu, zu, zu, zu, zu, zu, zu, zu, zu, zu, zu] (by kernel_rfl) rfl rfl ⟨(blk_cell BK128.out 0).trans rfl, (blk_cell BK128.out 1).trans rfl⟩ (fun hHeld => ?_); refine with_tabW epitomelaw09_ComposeGaps.tab8 epitomelaw09_ComposeGaps.bits8 (fun HT_ HW_ => ?_)
  generalize w47.drew = w48 at HO104 HO108 HO112 HO115 HO118 HO123 HO126 HO131 HO134 BK120 BK128 BK136 HB hHeld ⊢
  refine pure_ (i := 0) (N := some 59) (v := ?_) (a' := ?_) #[zt, zu, zu, zu, zu, zu, zu, zu, zu, zu, zu, zu, zu, zu, zu, zu, zu, zu, zu, zu, zu, zu, zu, zu, zu, zu, zu, zu, zu, zu, zu, zu, zu, zu, zu] rfl rfl (any_of HT_.out (by kernel_rfl)) (fun _ _ _ h => h) (Or.inl ⟨by rfl, ?_⟩) ?_ ?_
  rotate_left
  ·intro w'
   go_simp;with_reducible rfl
  rotate_left
  ·simp only [Act.put, zS, i64_w, i32_w]
   rfl
  refine pure_ (i := 1) (N := some 60) (v := ?_) (a' := ?_) #[zt, zt, zu, zu, zu, zu, zu, zu, zu, zu, zu, zu, zu, zu, zu, zu, zu, zu, zu, zu, zu, zu, zu, zu, zu, zu, zu, zu, zu, zu, zu, zu, zu, zu, zu] rfl rfl (any_of HT_.out (by kernel_rfl)) (fun _ _ _ h => h) (Or.inl ⟨by rfl, ?_⟩) ?_ ?_
  rotate_left
  ·intro w'
   go_simp;with_reducible rfl
  rotate_left
  ·simp only [Act.put, zS, i64_w, i32_w]
   rfl
  refine pure_ (i := 2) (N := some 61) (v := ?_) (a' := ?_) #[zt, zt, zt, zu, zu, zu, zu, zu, zu, zu, zu, zu, zu, zu, zu, zu, zu, zu, zu, zu, zu, zu, zu, zu, zu, zu, zu, zu, zu, zu, zu, zu, zu, zu, zu] rfl rfl (any_of HT_.out (by kernel_rfl)) (fun _ _ _ h => h) (Or.inl ⟨by rfl, ?_⟩) ?_ ?_
  rotate_left
  ·intro w'
   go_simp;with_reducible rfl
  rotate_left
  ·simp only [Act.put, zS, i64_w, i32_w]
   rfl
  refine pure_ (i := 3) (N := some 62) (v := ?_) (a' := ?_) #[zt, zt, zt, zt, zu, zu, zu, zu, zu, zu, zu, zu, zu, zu, zu, zu, zu, zu, zu, zu, zu, zu, zu, zu, zu, zu, zu, zu, zu, zu, zu, zu, zu, zu, zu] rfl rfl (any_of HT_.out (by kernel_rfl)) (fun _ _ _ h => h) (Or.inl ⟨by rfl, ?_⟩) ?_ ?_
  rotate_left
  ·intro w'
   go_simp;with_reducible rfl
  rotate_left
  ·simp only [Act.put, zS, i64_w, i32_w]
   rfl
  refine pure_ (i := 4) (N := some 63) (v := ?_) (a' := ?_) #[zt, zt, zt, zt, zt, zu, zu, zu, zu, zu, zu, zu, zu, zu, zu, zu, zu, zu, zu, zu, zu, zu, zu, zu, zu, zu, zu, zu, zu, zu, zu, zu, zu, zu, zu] rfl rfl (any_of HT_.out (by kernel_rfl)) (fun _ _ _ h => h) (Or.inl ⟨by rfl, ?_⟩) ?_ ?_
  rotate_left
  ·intro w'
   go_simp;with_reducible rfl
  rotate_left
  ·simp only [Act.put, zS, i64_w, i32_w]
   rfl
  refine pure_ (i := 5) (N := some 64) (v := ?_) (a' := ?_) #[zt, zt, zt, zt, zt, zt, zu, zu, zu, zu, zu, zu, zu, zu, zu, zu, zu, zu, zu, zu, zu, zu, zu, zu, zu, zu, zu, zu, zu, zu, zu, zu, zu, zu, zu] rfl rfl (any_of HT_.out (by kernel_rfl)) (fun _ _ _ h => h) (Or.inl ⟨by rfl, ?_⟩) ?_ ?_
  rotate_left
  ·intro w'
   go_simp;with_reducible rfl
  rotate_left
  ·simp only [Act.put, zS, i64_w, i32_w]
   rfl
  refine pure_ (i := 6) (N := some 65) (v := ?_) (a' := ?_) #[zt, zt, zt, zt, zt, zt, zt, zu, zu, zu, zu, zu, zu, zu, zu, zu, zu, zu, zu, zu, zu, zu, zu, zu, zu, zu, zu, zu, zu, zu, zu, zu, zu, zu, zu] rfl rfl (any_of HT_.out (by kernel_rfl)) (fun _ _ _ h => h) (Or.inl ⟨by rfl, ?_⟩) ?_ ?_
  rotate_left
  ·intro w'
   go_simp;with_reducible rfl
  rotate_left
  ·simp only [Act.put, zS, i64_w, i32_w]
   rfl
  refine pure_ (i := 7) (N := some 66) (v := ?_) (a' := ?_) #[zt, zt, zt, zt, zt, zt, zt, zt, zu, zu, zu, zu, zu, zu, zu, zu, zu, zu, zu, zu, zu, zu, zu, zu, zu, zu, zu, zu, zu, zu, zu, zu, zu, zu, zu] rfl rfl (any_of HT_.out (by kernel_rfl)) (fun _ _ _ h => h) (Or.inl ⟨by rfl, ?_⟩) ?_ ?_
  rotate_left
  ·intro w'
   go_simp;with_reducible rfl
  rotate_left
  ·simp only [Act.put, zS, i64_w, i32_w]
   rfl
  refine pure_ (i := 8) (N := some 67) (v := ?_) (a' := ?_) #[zt, zt, zt, zt, zt, zt, zt, zt, zt, zu, zu, zu, zu, zu, zu, zu, zu, zu, zu, zu, zu, zu, zu, zu, zu, zu, zu, zu, zu, zu, zu, zu, zu, zu, zu] rfl rfl (any_of HT_.out (by kernel_rfl)) (fun _ _ _ h => h) (Or.inl ⟨by rfl, ?_⟩) ?_ ?_
  rotate_left
  ·intro w'
   go_simp;with_reducible rfl
  rotate_left
  ·simp only [Act.put, zS, i64_w, i32_w]
   rfl
  refine pure_ (i := 9) (N := some 68) (v := ?_) (a' := ?_) #[zt, zt, zt, zt, zt, zt, zt, zt, zt, zt, zu, zu, zu, zu, zu, zu, zu, zu, zu, zu, zu, zu, zu, zu, zu, zu, zu, zu, zu, zu, zu, zu, zu, zu, zu] rfl rfl (any_of HT_.out (by kernel_rfl)) (fun _ _ _ h => h) (Or.inl ⟨by rfl, ?_⟩) ?_ ?_
  rotate_left
  ·intro w'
   go_simp;with_reducible rfl
  rotate_left
  ·simp only [Act.put, zS, i64_w, i32_w]
   rfl
  refine pure_ (i := 10) (N := some 69) (v := ?_) (a' := ?_) #[zt, zt, zt, zt, zt, zt, zt, zt, zt, zt, zt, zu, zu, zu, zu, zu, zu, zu, zu, zu, zu, zu, zu, zu, zu, zu, zu, zu, zu, zu, zu, zu, zu, zu, zu] rfl rfl (any_of HT_.out (by kernel_rfl)) (fun _ _ _ h => h) (Or.inl ⟨by rfl, ?_⟩) ?_ ?_
  rotate_left
  ·intro w'
   go_simp;with_reducible rfl
  rotate_left
  ·simp only [Act.put, zS, i64_w, i32_w]
   rfl
  refine pure_ (i := 11) (N := some 70) (v := ?_) (a' := ?_) #[zt, zt, zt, zt, zt, zt, zt, zt, zt, zt, zt, zt, zu, zu, zu, zu, zu, zu, zu, zu, zu, zu, zu, zu, zu, zu, zu, zu, zu, zu, zu, zu, zu, zu, zu] rfl rfl (any_of HT_.out (by kernel_rfl)) (fun _ _ _ h => h) (Or.inl ⟨by rfl, ?_⟩) ?_ ?_
  rotate_left
  ·intro w'
   go_simp;with_reducible rfl
  rotate_left
  ·simp only [Act.put, zS, i64_w, i32_w]
   rfl
  refine pure_ (i := 12) (N := some 71) (v := ?_) (a' := ?_) #[zt, zt, zt, zt, zt, zt, zt, zt, zt, zt, zt, zt, zt, zu, zu, zu, zu, zu, zu, zu, zu, zu, zu, zu, zu, zu, zu, zu, zu, zu, zu, zu, zu, zu, zu] rfl rfl (any_of HT_.out (by kernel_rfl)) (fun _ _ _ h => h) (Or.inl ⟨by rfl, ?_⟩) ?_ ?_
  rotate_left
  ·intro w'
   go_simp;with_reducible rfl
  rotate_left
  ·simp only [Act.put, zS, i64_w, i32_w]
   rfl
  refine pure_ (i := 13) (N := some 72) (v := ?_) (a' := ?_) #[zt, zt, zt, zt, zt, zt, zt, zt, zt, zt, zt, zt, zt, zt, zu, zu, zu, zu, zu, zu, zu, zu, zu, zu, zu, zu, zu, zu, zu, zu, zu, zu, zu, zu, zu] rfl rfl (any_of HT_.out (by kernel_rfl)) (fun _ _ _ h => h) (Or.inl ⟨by rfl, ?_⟩) ?_ ?_
  rotate_left
  ·intro w'
   go_simp;with_reducible rfl
  rotate_left
  ·simp only [Act.put, zS, i64_w, i32_w]
   rfl
  refine pure_ (i := 14) (N := some 73) (v := ?_) (a' := ?_) #[zt, zt, zt, zt, zt, zt, zt, zt, zt, zt, zt, zt, zt, zt, zt, zu, zu, zu, zu, zu, zu, zu, zu, zu, zu, zu, zu, zu, zu, zu, zu, zu, zu, zu, zu] rfl rfl (any_of HT_.out (by kernel_rfl)) (fun _ _ _ h => h) (Or.inl ⟨by rfl, ?_⟩) ?_ ?_
  rotate_left
  ·intro w'
   go_simp;with_reducible rfl
  rotate_left
  ·simp only [Act.put, zS, i64_w, i32_w]
   rfl
  refine pure_ (i := 15) (N := some 74) (v := ?_) (a' := ?_) #[zt, zt, zt, zt, zt, zt, zt, zt, zt, zt, zt, zt, zt, zt, zt, zt, zu, zu, zu, zu, zu, zu, zu, zu, zu, zu, zu, zu, zu, zu, zu, zu, zu, zu, zu] rfl rfl (any_of HT_.out (by kernel_rfl)) (fun _ _ _ h => h) (Or.inl ⟨by rfl, ?_⟩) ?_ ?_
  rotate_left
  ·intro w'
   go_simp;with_reducible rfl
  rotate_left
  ·simp only [Act.put, zS, i64_w, i32_w]
   rfl
  refine pure_ (i := 16) (N := some 75) (v := ?_) (a' := ?_) #[zt, zt, zt, zt, zt, zt, zt, zt, zt, zt, zt, zt, zt, zt, zt, zt, zt, zu, zu, zu, zu, zu, zu, zu, zu, zu, zu, zu, zu, zu, zu, zu, zu, zu, zu] rfl rfl (any_of HT_.out (by kernel_rfl)) (fun _ _ _ h => h) (Or.inl ⟨by rfl, ?_⟩) ?_ ?_
  rotate_left
  ·intro w'
   go_simp;with_reducible rfl
  rotate_left
  ·simp only [Act.put, zS, i64_w, i32_w]
   rfl
  refine pure_ (i := 17) (N := some 76) (v := ?_) (a' := ?_) #[zt, zt, zt, zt, zt, zt, zt, zt, zt, zt, zt, zt, zt, zt, zt, zt, zt, zt, zu, zu, zu, zu, zu, zu, zu, zu, zu, zu, zu, zu, zu, zu, zu, zu, zu] rfl rfl (any_of HT_.out (by kernel_rfl)) (fun _ _ _ h => h) (Or.inl ⟨by rfl, ?_⟩) ?_ ?_
  rotate_left
  ·intro w'
   go_simp;with_reducible rfl
  rotate_left
  ·simp only [Act.put, zS, i64_w, i32_w]
   rfl
  refine pure_ (i := 18) (N := some 77) (v := ?_) (a' := ?_) #[zt, zt, zt, zt, zt, zt, zt, zt, zt, zt, zt, zt, zt, zt, zt, zt, zt, zt, zt, zu, zu, zu, zu, zu, zu, zu, zu, zu, zu, zu, zu, zu, zu, zu, zu] rfl rfl (any_of HT_.out (by kernel_rfl)) (fun _ _ _ h => h) (Or.inl ⟨by rfl, ?_⟩) ?_ ?_
  rotate_left
  ·intro w'
   go_simp;with_reducible rfl
  rotate_left
  ·simp only [Act.put, zS, i64_w, i32_w]
   rfl
  refine pure_ (i := 19) (N := some 78) (v := ?_) (a' := ?_) #[zt, zt, zt, zt, zt, zt, zt, zt, zt, zt, zt, zt, zt, zt, zt, zt, zt, zt, zt, zt, zu, zu, zu, zu, zu, zu, zu, zu, zu, zu, zu, zu, zu, zu, zu] rfl rfl (any_of HT_.out (by kernel_rfl)) (fun _ _ _ h => h) (Or.inl ⟨by rfl, ?_⟩) ?_ ?_
  rotate_left
  ·intro w'
   go_simp;with_reducible rfl
  rotate_left
  ·simp only [Act.put, zS, i64_w, i32_w]
   rfl
  refine pure_ (i := 22) (N := some 81) (v := ?_) (a' := ?_) #[zt, zt, zt, zt, zt, zt, zt, zt, zt, zt, zt, zt, zt, zt, zt, zt, zt, zt, zt, zt, zu, zu, zt, zu, zu, zu, zu, zu, zu, zu, zu, zu, zu, zu, zu] rfl rfl (any_of HT_.out (by kernel_rfl)) (fun _ _ _ h => h) (Or.inl ⟨by rfl, ?_⟩) ?_ ?_
  rotate_left
  ·intro w'
   go_simp;with_reducible rfl
  rotate_left
  ·simp only [Act.put, zS, i64_w, i32_w]
   rfl
  refine take_ (i := 20) (N := some 79) (v := ?_) (a' := ?_) #[zt, zt, zt, zt, zt, zt, zt, zt, zt, zt, zt, zt, zt, zt, zt, zt, zt, zt, zt, zt, zt, zu, zt, zu, zu, zu, zu, zu, zu, zu, zu, zu, zu, zu, zu] rfl rfl (take_ofW HT_.out HW_.out (by kernel_rfl)) (fun _ _ _ h => h) (Or.inl ⟨by rfl, ?_⟩) hHeld ?_ ?_
  rotate_left
  ·rintro w' ⟨s0, s1⟩
   go_simp;with_reducible rfl
  rotate_left
  ·simp only [Act.put, zS, i64_w, i32_w]
   rfl
  refine pure_ (i := 21) (N := some 80) (v := ?_) (a' := ?_) #[zt, zt, zt, zt, zt, zt, zt, zt, zt, zt, zt, zt, zt, zt, zt, zt, zt, zt, zt, zt, zt, zt, zt, zu, zu, zu, zu, zu, zu, zu, zu, zu, zu, zu, zu] rfl rfl (any_of HT_.out (by kernel_rfl)) (fun _ _ _ h => h) (Or.inl ⟨by rfl, ?_⟩) ?_ ?_
  rotate_left
  ·intro w'
   go_simp;with_reducible rfl
  rotate_left
  ·simp only [Act.put, zS, i64_w, i32_w]
   rfl
  refine one_ (i := 23) (N := some 82) #[zt, zt, zt, zt, zt, zt, zt, zt, zt, zt, zt, zt, zt, zt, zt, zt, zt, zt, zt, zt, zt, zt, zt, zt, zu, zu, zu, zu, zu, zu, zu, zu, zu, zu, zu] rfl rfl (one_of HT_.out (by kernel_rfl)) (by decide) (fun K hK => ?_)
  refine goes_ Tryd.func11 (by kernel_rfl) rfl #[.slice Ao15 t102.length co15] (by rfl) rfl rfl zE ?_
  with_reducible refine (op_Out.calls k _ _ t102 t137 _ ?side1 ?side2 ?side3 A44.out).mono ?_
  (case side1 => exact zg HG HB)
  (case side2 => exact zI (R_reads' HO104.out).2.2)
  (case side3 => exact (R_reads' HO104.out).2.1)
  rintro e w49 ⟨rfl, hb⟩
  refine ⟨_, rfl, ?_⟩
  replace HO104 := Am (R_below (zR HO104) hb);replace HO108 := Am (R_below (zR HO108) hb);replace HO112 := Am (R_below (zR HO112) hb);replace HO115 := Am (Kd.V_below (zV HO115) hb);replace HO118 := Am (Kd.V_below (zV HO118) hb);replace HO123 := Am (Kd.V_below (zV HO123) hb);replace HO126 := Am (Kd.V_below (zV HO126) hb);replace HO131 := Am (Kd.V_below (zV HO131) hb);replace HO134 := Am (Kd.V_below (zV HO134) hb);replace BK120 := Am (zU BK120 hb);replace BK128 := Am (zU BK128 hb);replace BK136 := Am (zU BK136 hb);replace HB := Am (below_step (zB HB) hb);(try clear hb);(try clear hb2);(try clear hk);(try clear hi);refine hK.out _ _ ⟨(blk_cell BK128.out 0).trans rfl, (blk_cell BK128.out 1).trans rfl⟩ (fun hHeld => ?_)
  clear hK K;refine norm_ (a' := ?_) ?_ ?_
  rotate_left
  ·show Act.put _ (some 82) _ = _
   simp only [Act.put, zS, i64_w, i32_w]
   rfl
  refine pure_ (i := 24) (N := some 83) (v := ?_) (a' := ?_) #[zt, zt, zt, zt, zt, zt, zt, zt, zt, zt, zt, zt, zt, zt, zt, zt, zt, zt, zt, zt, zt, zt, zt, zt, zt, zu, zu, zu, zu, zu, zu, zu, zu, zu, zu] rfl rfl (any_of HT_.out (by kernel_rfl)) (fun _ _ _ h => h) (Or.inl ⟨by rfl, ?_⟩) ?_ ?_
  rotate_left
  ·intro w'
   go_simp;with_reducible rfl
  rotate_left
  ·simp only [Act.put, zS, i64_w, i32_w]
   rfl
  refine pure_ (i := 25) (N := some 84) (v := ?_) (a' := ?_) #[zt, zt, zt, zt, zt, zt, zt, zt, zt, zt, zt, zt, zt, zt, zt, zt, zt, zt, zt, zt, zt, zt, zt, zt, zt, zt, zu, zu, zu, zu, zu, zu, zu, zu, zu] rfl rfl (any_of HT_.out (by kernel_rfl)) (fun _ _ _ h => h) (Or.inl ⟨by rfl, ?_⟩) ?_ ?_
  rotate_left
  ·intro w'
   go_simp;with_reducible rfl
  rotate_left
  ·simp only [Act.put, zS, i64_w, i32_w]
   rfl
  refine pure_ (i := 26) (N := some 85) (v := ?_) (a' := ?_) #[zt, zt, zt, zt, zt, zt, zt, zt, zt, zt, zt, zt, zt, zt, zt, zt, zt, zt, zt, zt, zt, zt, zt, zt, zt, zt, zt, zu, zu, zu, zu, zu, zu, zu, zu] rfl rfl (any_of HT_.out (by kernel_rfl)) (fun _ _ _ h => h) (Or.inl ⟨by rfl, ?_⟩) ?_ ?_
  rotate_left
  ·intro w'
   go_simp;with_reducible rfl
  rotate_left
  ·simp only [Act.put, zS, i64_w, i32_w]
   rfl
  refine pure_ (i := 27) (N := some 86) (v := ?_) (a' := ?_) #[zt, zt, zt, zt, zt, zt, zt, zt, zt, zt, zt, zt, zt, zt, zt, zt, zt, zt, zt, zt, zt, zt, zt, zt, zt, zt, zt, zt, zu, zu, zu, zu, zu, zu, zu] rfl rfl (any_of HT_.out (by kernel_rfl)) (fun _ _ _ h => h) (Or.inl ⟨by rfl, ?_⟩) ?_ ?_
  rotate_left
  ·intro w'
   go_simp;with_reducible rfl
  rotate_left
  ·simp only [Act.put, zS, i64_w, i32_w]
   rfl
  refine pure_ (i := 28) (N := some 87) (v := ?_) (a' := ?_) #[zt, zt, zt, zt, zt, zt, zt, zt, zt, zt, zt, zt, zt, zt, zt, zt, zt, zt, zt, zt, zt, zt, zt, zt, zt, zt, zt, zt, zt, zu, zu, zu, zu, zu, zu] rfl rfl (any_of HT_.out (by kernel_rfl)) (fun _ _ _ h => h) (Or.inl ⟨by rfl, ?_⟩) ?_ ?_
  rotate_left
  ·intro w'
   go_simp;with_reducible rfl
  rotate_left
  ·simp only [Act.put, zS, i64_w, i32_w]
   rfl
  refine pure_ (i := 31) (N := some 90) (v := ?_) (a' := ?_) #[zt, zt, zt, zt, zt, zt, zt, zt, zt, zt, zt, zt, zt, zt, zt, zt, zt, zt, zt, zt, zt, zt, zt, zt, zt, zt, zt, zt, zt, zu, zu, zt, zu, zu, zu] rfl rfl (any_of HT_.out (by kernel_rfl)) (fun _ _ _ h => h) (Or.inl ⟨by rfl, ?_⟩) ?_ ?_
  rotate_left
  ·intro w'
   go_simp;with_reducible rfl
  rotate_left
  ·simp only [Act.put, zS, i64_w, i32_w]
   rfl
  refine take_ (i := 29) (N := some 88) (v := ?_) (a' := ?_) #[zt, zt, zt, zt, zt, zt, zt, zt, zt, zt, zt, zt, zt, zt, zt, zt, zt, zt, zt, zt, zt, zt, zt, zt, zt, zt, zt, zt, zt, zt, zu, zt, zu, zu, zu] rfl rfl (take_ofW HT_.out HW_.out (by kernel_rfl)) (fun _ _ _ h => h) (Or.inl ⟨by rfl, ?_⟩) hHeld ?_ ?_
  rotate_left
  ·rintro w' ⟨s0, s1⟩
   go_simp;with_reducible rfl
  rotate_left
  ·simp only [Act.put, zS, i64_w, i32_w]
   rfl
  refine pure_ (i := 30) (N := some 89) (v := ?_) (a' := ?_) #[zt, zt, zt, zt, zt, zt, zt, zt, zt, zt, zt, zt, zt, zt, zt, zt, zt, zt, zt, zt, zt, zt, zt, zt, zt, zt, zt, zt, zt, zt, zt, zt, zu, zu, zu] rfl rfl (any_of HT_.out (by kernel_rfl)) (fun _ _ _ h => h) (Or.inl ⟨by rfl, ?_⟩) ?_ ?_
  rotate_left
  ·intro w'
   go_simp;with_reducible rfl
  rotate_left
  ·simp only [Act.put, zS, i64_w, i32_w]
   rfl
  refine one_ (i := 32) (N := some 91) #[zt, zt, zt, zt, zt, zt, zt, zt, zt, zt, zt, zt, zt, zt, zt, zt, zt, zt, zt, zt, zt, zt, zt, zt, zt, zt, zt, zt, zt, zt, zt, zt, zt, zu, zu] rfl rfl (one_of HT_.out (by kernel_rfl)) (by decide) (fun K hK => ?_)
  refine goes_ Tryd.func11 (by kernel_rfl) rfl #[.slice Ao15 t102.length co15] (by rfl) rfl rfl zE ?_
  with_reducible refine (op_Out.calls k _ _ t102 t138 _ ?side1 ?side2 ?side3 A46.out).mono ?_
  (case side1 => exact zg HG HB)
  (case side2 => exact zI (R_reads' HO104.out).2.2)
  (case side3 => exact (R_reads' HO104.out).2.1)
  rintro e w50 ⟨rfl, hb⟩
  refine ⟨_, rfl, ?_⟩
  replace HO104 := Am (R_below (zR HO104) hb);replace HO108 := Am (R_below (zR HO108) hb);replace HO112 := Am (R_below (zR HO112) hb);replace HO115 := Am (Kd.V_below (zV HO115) hb);replace HO118 := Am (Kd.V_below (zV HO118) hb);replace HO123 := Am (Kd.V_below (zV HO123) hb);replace HO126 := Am (Kd.V_below (zV HO126) hb);replace HO131 := Am (Kd.V_below (zV HO131) hb);replace HO134 := Am (Kd.V_below (zV HO134) hb);replace BK120 := Am (zU BK120 hb);replace BK128 := Am (zU BK128 hb);replace BK136 := Am (zU BK136 hb);replace HB := Am (below_step (zB HB) hb);(try clear hb);(try clear hb2);(try clear hk);(try clear hi);refine hK.out _ _ ⟨(blk_cell BK128.out 0).trans rfl, (blk_cell BK128.out 1).trans rfl⟩ (fun hHeld => ?_)
  clear hK K;refine norm_ (a' := ?_) ?_ ?_
  rotate_left
  ·show Act.put _ (some 91) _ = _
   simp only [Act.put, zS, i64_w, i32_w]
   rfl
  refine pure_ (i := 33) (N := some 92) (v := ?_) (a' := ?_) #[zt, zt, zt, zt, zt, zt, zt, zt, zt, zt, zt, zt, zt, zt, zt, zt, zt, zt, zt, zt, zt, zt, zt, zt, zt, zt, zt, zt, zt, zt, zt, zt, zt, zt, zu] rfl rfl (any_of HT_.out (by kernel_rfl)) (fun _ _ _ h => h) (Or.inl ⟨by rfl, ?_⟩) ?_ ?_
  rotate_left
  ·intro w'
   go_simp;with_reducible rfl
  rotate_left
  ·simp only [Act.put, zS, i64_w, i32_w]
   rfl
  refine pure_ (i := 34) (N := some 93) (v := ?_) (a' := ?_) #[zt, zt, zt, zt, zt, zt, zt, zt, zt, zt, zt, zt, zt, zt, zt, zt, zt, zt, zt, zt, zt, zt, zt, zt, zt, zt, zt, zt, zt, zt, zt, zt, zt, zt, zt] rfl rfl (any_of HT_.out (by kernel_rfl)) (fun _ _ _ h => h) (Or.inl ⟨by rfl, ?_⟩) ?_ ?_
  rotate_left
  ·intro w'
   go_simp;with_reducible rfl
  rotate_left
  ·simp only [Act.put, zS, i64_w, i32_w]
   rfl
  refine done_ (done_of HT_.out (by kernel_rfl)) ?_
  try go_wp2
  go_meet
  case rel => exact ⟨_, (((t124.length : Int) != t138)), zG, H', ⟨by first | omega | exact Nat.le_refl _⟩, ⟨by (with_reducible repeat (first | apply zA.a | apply zA.n | apply zA.d)); exact R_mono HO104.out (fun _ hk => trivial)⟩, ⟨by (with_reducible repeat (first | apply Kd.V_alloc | apply Kd.V_drewN | apply Kd.V_drew)); exact Kd.V_mono HO115.out zp⟩, ⟨by (with_reducible repeat (first | apply Kd.V_alloc | apply Kd.V_drewN | apply Kd.V_drew)); exact Kd.V_mono HO118.out zp⟩, ⟨by (with_reducible repeat (first | apply Kd.V_alloc | apply Kd.V_drewN | apply Kd.V_drew)); exact Kd.V_mono HO123.out zp⟩, ⟨by (with_reducible repeat (first | apply Kd.V_alloc | apply Kd.V_drewN | apply Kd.V_drew)); exact Kd.V_mono HO126.out zp⟩, ⟨by (with_reducible repeat (first | apply Kd.V_alloc | apply Kd.V_drewN | apply Kd.V_drew)); exact Kd.V_mono HO131.out zp⟩, ⟨by (with_reducible repeat (first | apply Kd.V_alloc | apply Kd.V_drewN | apply Kd.V_drew)); exact Kd.V_mono HO134.out zp⟩, ⟨(zK BK120)⟩, ⟨(zK BK128)⟩, ⟨(zK BK136)⟩, ⟨(zB HB)⟩⟩
 case rest =>
 as_aux_lemma =>
  clear HC12;(try clear p2);(try clear c3);(try clear c4);(try clear c39);(try clear c40);(try clear c40b0);(try clear c40b1);obtain ⟨kq, x93_11, rfl, HA, HJ11, HO_8, HO_121000, HO_121001, HO_129000, HO_129001, HO_137000, HO_137001, BK120, BK128, BK136, HB⟩ := hcut
  cases kq with
  | zero => exact absurd HA.out (by simp [epitomelaw09_ComposeGaps.j0])
  | succ kj11 =>
   have H := HA.out;clear HA;simp only [epitomelaw09_ComposeGaps.j0] at H
   by_cases c64 : x93_11 = true
   ·subst c64
    have H1 : (some false) = some r := by rw [if_pos rfl] at H; exact H
    clear H;have H := H1
    clear H1;exact Bool.noConfusion ((Option.some.inj H).trans hr_.out)
   replace c64 := Bool.eq_false_iff.mpr c64
   subst c64
   have H1 : (if 0 ≤ (t113.length : Int) then (if ((t113.length : Int) : Int).toNat ≤ 17592186044416 then ((some (([] : List Bool) : List Bool)).bind fun y142 => (if y142.length + t116.length < 140737488355328 then (epitomelaw09_ComposeGaps.l0 kj11 t102 0 0 t113 t116 t121 t124 t129 t132 (List.replicate ((t113.length : Int) : Int).toNat (⟨#[]⟩ : ByteArray)) (y142 ++ t116)) else (none))) else (none)) else (none)) = some r := by rw [if_neg (show ¬ (false = true) by decide)] at H; exact H
   clear H;have H := H1
   clear H1;by_cases c65 : 0 ≤ (t113.length : Int)
   rotate_left
   ·rw [if_neg c65] at H;exact absurd H (by simp)
   rw [if_pos c65] at H;have c65b0 := eq_true c65
   have c65b1 : decide (0 ≤ (t113.length : Int)) = true := decide_eq_true c65
   clear c65;by_cases c66 : ((t113.length : Int) : Int).toNat ≤ 17592186044416
   rotate_left
   ·rw [if_neg c66] at H;exact absurd H (by simp)
   rw [if_pos c66] at H;have c66b0 := eq_true c66
   have c66b1 : decide (((t113.length : Int) : Int).toNat ≤ 17592186044416) = true := decide_eq_true c66
   clear c66;obtain ⟨y139, hy139⟩ : ∃ y_ : List ByteArray, y_ = (List.replicate ((t113.length : Int) : Int).toNat (⟨#[]⟩ : ByteArray)) := ⟨_, rfl⟩
   replace H : ((some (([] : List Bool) : List Bool)).bind fun y142 => (if y142.length + t116.length < 140737488355328 then (epitomelaw09_ComposeGaps.l0 kj11 t102 0 0 t113 t116 t121 t124 t129 t132 y139 (y142 ++ t116)) else (none))) = some r := by first | (rw [hy139]; with_reducible exact H) | (have H2_ := (Option.bind_some _ _).symm.trans H; rw [hy139]; with_reducible exact H2_) | (have H2_ := (Option.bind_some _ _).symm.trans H; with_reducible exact H2_) | with_reducible exact H | (rw [hy139]; exact H) | exact H
   have Ny139 := Am hy139;clear hy139;obtain ⟨y142, hy142⟩ : ∃ y_ : List Bool, y_ = (([] : List Bool)) := ⟨_, rfl⟩
   replace H := bind_named H hy142
   have Ny142 := Am hy142;clear hy142;by_cases c67 : y142.length + t116.length < 140737488355328
   rotate_left
   ·rw [if_neg c67] at H;exact absurd H (by simp)
   rw [if_pos c67] at H;have LMc67 := Am c67;clear c67;obtain ⟨y145, hy145⟩ : ∃ y_ : List Bool, y_ = (y142 ++ t116) := ⟨_, rfl⟩
   replace H : (epitomelaw09_ComposeGaps.l0 kj11 t102 0 0 t113 t116 t121 t124 t129 t132 y139 y145) = some r := by first | (rw [hy145]; with_reducible exact H) | (have H2_ := (Option.bind_some _ _).symm.trans H; rw [hy145]; with_reducible exact H2_) | (have H2_ := (Option.bind_some _ _).symm.trans H; with_reducible exact H2_) | with_reducible exact H | (rw [hy145]; exact H) | exact H
   have Ny145 := Am hy145;clear hy145;have H' := Am H
   clear H;try go_wp2
   replace HO_8 := Am (R_drew HO_8.out);replace HO_121000 := Am (Kd.V_drew HO_121000.out);replace HO_121001 := Am (Kd.V_drew HO_121001.out);replace HO_129000 := Am (Kd.V_drew HO_129000.out);replace HO_129001 := Am (Kd.V_drew HO_129001.out);replace HO_137000 := Am (Kd.V_drew HO_137000.out);replace HO_137001 := Am (Kd.V_drew HO_137001.out);replace BK120 := Am (blk_drew BK120.out);replace BK128 := Am (blk_drew BK128.out);replace BK136 := Am (blk_drew BK136.out);replace HB := Am (below_drew1 HB.out);refine start_ (n := 11) (S := fun w' => w'.cell? ⟨gb120, 0, none⟩ = some (.slice Ao22 t113.length co22) ∧ w'.cell? ⟨gb120, 1, none⟩ = some (.slice Ao24 t116.length co24)) (ds := []) #[zu, zu, zu, zu, zu, zu, zu, zu, zu, zu, zu] (by kernel_rfl) rfl rfl ⟨(blk_cell BK120.out 0).trans rfl, (blk_cell BK120.out 1).trans rfl⟩ (fun hHeld => ?_); refine with_tabW epitomelaw09_ComposeGaps.tab10 epitomelaw09_ComposeGaps.bits10 (fun HT_ HW_ => ?_)
   generalize wc.drew = w68 at HO_8 HO_121000 HO_121001 HO_129000 HO_129001 HO_137000 HO_137001 BK120 BK128 BK136 HB hHeld ⊢
   refine pure_ (i := 0) (N := some 94) (v := ?_) (a' := ?_) #[zt, zu, zu, zu, zu, zu, zu, zu, zu, zu, zu] rfl rfl (any_of HT_.out (by kernel_rfl)) (fun _ _ _ h => h) (Or.inl ⟨by rfl, ?_⟩) ?_ ?_
   rotate_left
   ·intro w'
    go_simp;with_reducible rfl
   rotate_left
   ·simp only [Act.put, zS, i64_w, i32_w]
    rfl
   refine pure_ (i := 5) (N := some 99) (v := ?_) (a' := ?_) #[zt, zu, zu, zu, zu, zt, zu, zu, zu, zu, zu] rfl rfl (any_of HT_.out (by kernel_rfl)) (fun _ _ _ h => h) (Or.inl ⟨by rfl, ?_⟩) ?_ ?_
   rotate_left
   ·intro w'
    go_simp;with_reducible rfl
   rotate_left
   ·simp only [Act.put, zS, i64_w, i32_w]
    rfl
   refine take_ (i := 1) (N := some 95) (v := ?_) (a' := ?_) #[zt, zt, zu, zu, zu, zt, zu, zu, zu, zu, zu] rfl rfl (take_ofW HT_.out HW_.out (by kernel_rfl)) (fun _ _ _ h => h) (Or.inl ⟨by rfl, ?_⟩) hHeld ?_ ?_
   rotate_left
   ·rintro w' ⟨s0, s1⟩
    go_simp;with_reducible rfl
   rotate_left
   ·simp only [Act.put, zS, i64_w, i32_w]
    rfl
   refine pure_ (i := 2) (N := some 96) (v := ?_) (a' := ?_) #[zt, zt, zt, zu, zu, zt, zu, zu, zu, zu, zu] rfl rfl (any_of HT_.out (by kernel_rfl)) (fun _ _ _ h => h) (Or.inl ⟨by rfl, ?_⟩) ?_ ?_
   rotate_left
   ·intro w'
    go_simp;with_reducible rfl
   rotate_left
   ·simp only [Act.put, zS, i64_w, i32_w]
    rfl
   refine take_ (i := 6) (N := some 100) (v := ?_) (a' := ?_) #[zt, zt, zt, zu, zu, zt, zt, zu, zu, zu, zu] rfl rfl (take_ofW HT_.out HW_.out (by kernel_rfl)) (fun _ _ _ h => h) (Or.inl ⟨by rfl, ?_⟩) hHeld ?_ ?_
   rotate_left
   ·rintro w' ⟨s0, s1⟩
    go_simp;with_reducible rfl
   rotate_left
   ·simp only [Act.put, zS, i64_w, i32_w]
    rfl
   refine join_ (σ := Value × Value × Value × Nat) 1 #[zt, zt, zt, zt, zt, zt, zt, zt, zt, zt, zu] (fun s_ => [(97, s_.1), (98, s_.2.1), (101, s_.2.2.1), (18, .pointer (some ⟨s_.2.2.2, 0, none⟩)), (102, .agg #[s_.1, s_.2.2.1])]) (fun s_ w' => (fun (ok_ : Nat → Prop) => (w'.cell? ⟨gb120, 0, none⟩ = some (.slice Ao22 t113.length co22) ∧ w'.cell? ⟨gb120, 1, none⟩ = some (.slice Ao24 t116.length co24)) ∧ (Kd.R Kd.string 9 w' w.heap.size (fun _ => True) s_.1 y139) ∧ (Kd.R Kd.bool 4 w' w.heap.size (fun _ => True) s_.2.2.1 y145) ∧ (Kd.V Kd.string 9 w' w.heap.size ok_ (.slice Ao22 t113.length co22) t113) ∧ (Kd.V Kd.bool 4 w' w.heap.size ok_ (.slice Ao24 t116.length co24) t116) ∧ (Kd.V Kd.string 9 w' w.heap.size ok_ (.slice Ao27 t121.length co27) t121) ∧ (Kd.V Kd.bool 4 w' w.heap.size ok_ (.slice Ao30 t124.length co30) t124) ∧ (Kd.V Kd.string 9 w' w.heap.size ok_ (.slice Ao34 t129.length co34) t129) ∧ (Kd.V Kd.bool 4 w' w.heap.size ok_ (.slice Ao38 t132.length co38) t132) ∧ (Kd.R k55 55 w' w.heap.size (fun _ => True) (.slice Ao15 t102.length co15) t102) ∧ (w'.heap[gb120]? = some (.cells #[.slice Ao22 t113.length co22, .slice Ao24 t116.length co24] 32 (0, 0))) ∧ (w'.heap[gb128]? = some (.cells #[.slice Ao27 t121.length co27, .slice Ao30 t124.length co30] 32 (0, 0))) ∧ (w'.heap[gb136]? = some (.cells #[.slice Ao34 t129.length co34, .slice Ao38 t132.length co38] 32 (0, 0))) ∧ (w'.heap[s_.2.2.2]? = some (.cells #[.slice none 0 0, .slice none 0 0] 32 (0, 0))) ∧ (w.heap.size ≤ s_.2.2.2) ∧ (w.heap.size ≤ s_.2.2.2) ∧ (gb120 ≠ s_.2.2.2) ∧ (s_.2.2.2 ≠ gb120) ∧ (gb128 ≠ s_.2.2.2) ∧ (s_.2.2.2 ≠ gb128) ∧ (gb136 ≠ s_.2.2.2) ∧ (s_.2.2.2 ≠ gb136) ∧ (Below w.heap.size w w')) (fun k_ => some k_ ≠ (s_.1 : Value).ownBlock ∧ some k_ ≠ (s_.2.2.1 : Value).ownBlock ∧ some k_ ≠ (.slice Ao15 t102.length co15 : Value).ownBlock ∧ k_ ≠ gb120 ∧ k_ ≠ gb128 ∧ k_ ≠ gb136 ∧ k_ ≠ s_.2.2.2)) ?_ ?_
   rotate_left
   ·intro hJ3_4_7_9;refine join_ (σ := Value × Value × Value) 2 #[zt, zt, zt, zt, zt, zt, zt, zt, zt, zu, zu] (fun s_ => [(97, s_.1), (98, s_.2.1), (101, s_.2.2), (102, .agg #[s_.1, s_.2.2])]) (fun s_ w' => (fun (ok_ : Nat → Prop) => (w'.cell? ⟨gb120, 0, none⟩ = some (.slice Ao22 t113.length co22) ∧ w'.cell? ⟨gb120, 1, none⟩ = some (.slice Ao24 t116.length co24)) ∧ (Kd.R Kd.string 9 w' w.heap.size (fun _ => True) s_.1 y139) ∧ (Kd.R Kd.bool 4 w' w.heap.size (fun _ => True) s_.2.2 y145) ∧ (Kd.V Kd.string 9 w' w.heap.size ok_ (.slice Ao22 t113.length co22) t113) ∧ (Kd.V Kd.bool 4 w' w.heap.size ok_ (.slice Ao24 t116.length co24) t116) ∧ (Kd.V Kd.string 9 w' w.heap.size ok_ (.slice Ao27 t121.length co27) t121) ∧ (Kd.V Kd.bool 4 w' w.heap.size ok_ (.slice Ao30 t124.length co30) t124) ∧ (Kd.V Kd.string 9 w' w.heap.size ok_ (.slice Ao34 t129.length co34) t129) ∧ (Kd.V Kd.bool 4 w' w.heap.size ok_ (.slice Ao38 t132.length co38) t132) ∧ (Kd.R k55 55 w' w.heap.size (fun _ => True) (.slice Ao15 t102.length co15) t102) ∧ (w'.heap[gb120]? = some (.cells #[.slice Ao22 t113.length co22, .slice Ao24 t116.length co24] 32 (0, 0))) ∧ (w'.heap[gb128]? = some (.cells #[.slice Ao27 t121.length co27, .slice Ao30 t124.length co30] 32 (0, 0))) ∧ (w'.heap[gb136]? = some (.cells #[.slice Ao34 t129.length co34, .slice Ao38 t132.length co38] 32 (0, 0))) ∧ (Below w.heap.size w w')) (fun k_ => some k_ ≠ (s_.1 : Value).ownBlock ∧ some k_ ≠ (s_.2.2 : Value).ownBlock ∧ some k_ ≠ (.slice Ao15 t102.length co15 : Value).ownBlock ∧ k_ ≠ gb120 ∧ k_ ≠ gb128 ∧ k_ ≠ gb136)) ?_ ?_
    rotate_left
    ·intro hJ3_4_7;refine join_ (σ := Value × Value × Nat) 3 #[zt, zt, zt, zt, zt, zt, zt, zu, zu, zt, zu] (fun s_ => [(97, s_.1), (98, s_.2.1), (18, .pointer (some ⟨s_.2.2, 0, none⟩))]) (fun s_ w' => (fun (ok_ : Nat → Prop) => (w'.cell? ⟨gb120, 0, none⟩ = some (.slice Ao22 t113.length co22) ∧ w'.cell? ⟨gb120, 1, none⟩ = some (.slice Ao24 t116.length co24)) ∧ (Kd.R Kd.string 9 w' w.heap.size (fun _ => True) s_.1 y139) ∧ (Kd.R Kd.bool 4 w' w.heap.size (fun _ => True) s_.2.1 y142) ∧ (Kd.V Kd.string 9 w' w.heap.size ok_ (.slice Ao22 t113.length co22) t113) ∧ (Kd.V Kd.bool 4 w' w.heap.size ok_ (.slice Ao24 t116.length co24) t116) ∧ (Kd.V Kd.string 9 w' w.heap.size ok_ (.slice Ao27 t121.length co27) t121) ∧ (Kd.V Kd.bool 4 w' w.heap.size ok_ (.slice Ao30 t124.length co30) t124) ∧ (Kd.V Kd.string 9 w' w.heap.size ok_ (.slice Ao34 t129.length co34) t129) ∧ (Kd.V Kd.bool 4 w' w.heap.size ok_ (.slice Ao38 t132.length co38) t132) ∧ (Kd.R k55 55 w' w.heap.size (fun _ => True) (.slice Ao15 t102.length co15) t102) ∧ (w'.heap[gb120]? = some (.cells #[.slice Ao22 t113.length co22, .slice Ao24 t116.length co24] 32 (0, 0))) ∧ (w'.heap[gb128]? = some (.cells #[.slice Ao27 t121.length co27, .slice Ao30 t124.length co30] 32 (0, 0))) ∧ (w'.heap[gb136]? = some (.cells #[.slice Ao34 t129.length co34, .slice Ao38 t132.length co38] 32 (0, 0))) ∧ (w'.heap[s_.2.2]? = some (.cells #[.slice none 0 0, .slice none 0 0] 32 (0, 0))) ∧ (w.heap.size ≤ s_.2.2) ∧ (w.heap.size ≤ s_.2.2) ∧ (gb120 ≠ s_.2.2) ∧ (s_.2.2 ≠ gb120) ∧ (gb128 ≠ s_.2.2) ∧ (s_.2.2 ≠ gb128) ∧ (gb136 ≠ s_.2.2) ∧ (s_.2.2 ≠ gb136) ∧ (Below w.heap.size w w')) (fun k_ => some k_ ≠ (s_.1 : Value).ownBlock ∧ some k_ ≠ (s_.2.1 : Value).ownBlock ∧ some k_ ≠ (.slice Ao15 t102.length co15 : Value).ownBlock ∧ k_ ≠ gb120 ∧ k_ ≠ gb128 ∧ k_ ≠ gb136 ∧ k_ ≠ s_.2.2)) ?_ ?_
     rotate_left
     ·intro hJ3_4_9;refine join_ (σ := Value × Value × Nat) 3 #[zt, zt, zt, zu, zt, zt, zt, zt, zu, zt, zu] (fun s_ => [(98, s_.1), (101, s_.2.1), (18, .pointer (some ⟨s_.2.2, 0, none⟩))]) (fun s_ w' => (fun (ok_ : Nat → Prop) => (w'.cell? ⟨gb120, 0, none⟩ = some (.slice Ao22 t113.length co22) ∧ w'.cell? ⟨gb120, 1, none⟩ = some (.slice Ao24 t116.length co24)) ∧ (Kd.R Kd.bool 4 w' w.heap.size (fun _ => True) s_.2.1 y145) ∧ (Kd.V Kd.string 9 w' w.heap.size ok_ (.slice Ao22 t113.length co22) t113) ∧ (Kd.V Kd.bool 4 w' w.heap.size ok_ (.slice Ao24 t116.length co24) t116) ∧ (Kd.V Kd.string 9 w' w.heap.size ok_ (.slice Ao27 t121.length co27) t121) ∧ (Kd.V Kd.bool 4 w' w.heap.size ok_ (.slice Ao30 t124.length co30) t124) ∧ (Kd.V Kd.string 9 w' w.heap.size ok_ (.slice Ao34 t129.length co34) t129) ∧ (Kd.V Kd.bool 4 w' w.heap.size ok_ (.slice Ao38 t132.length co38) t132) ∧ (Kd.R k55 55 w' w.heap.size (fun _ => True) (.slice Ao15 t102.length co15) t102) ∧ (w'.heap[gb120]? = some (.cells #[.slice Ao22 t113.length co22, .slice Ao24 t116.length co24] 32 (0, 0))) ∧ (w'.heap[gb128]? = some (.cells #[.slice Ao27 t121.length co27, .slice Ao30 t124.length co30] 32 (0, 0))) ∧ (w'.heap[gb136]? = some (.cells #[.slice Ao34 t129.length co34, .slice Ao38 t132.length co38] 32 (0, 0))) ∧ (w'.heap[s_.2.2]? = some (.cells #[.slice none 0 0, .slice none 0 0] 32 (0, 0))) ∧ (w.heap.size ≤ s_.2.2) ∧ (w.heap.size ≤ s_.2.2) ∧ (gb120 ≠ s_.2.2) ∧ (s_.2.2 ≠ gb120) ∧ (gb128 ≠ s_.2.2) ∧ (s_.2.2 ≠ gb128) ∧ (gb136 ≠ s_.2.2) ∧ (s_.2.2 ≠ gb136) ∧ (Below w.heap.size w w')) (fun k_ => some k_ ≠ (s_.2.1 : Value).ownBlock ∧ some k_ ≠ (.slice Ao15 t102.length co15 : Value).ownBlock ∧ k_ ≠ gb120 ∧ k_ ≠ gb128 ∧ k_ ≠ gb136 ∧ k_ ≠ s_.2.2)) ?_ ?_
      rotate_left
      ·intro hJ4_7_9;refine join_ (σ := Value × Value) 4 #[zt, zt, zt, zt, zt, zt, zt, zu, zu, zu, zu] (fun s_ => [(97, s_.1), (98, s_.2)]) (fun s_ w' => (fun (ok_ : Nat → Prop) => (w'.cell? ⟨gb120, 0, none⟩ = some (.slice Ao22 t113.length co22) ∧ w'.cell? ⟨gb120, 1, none⟩ = some (.slice Ao24 t116.length co24)) ∧ (Kd.R Kd.string 9 w' w.heap.size (fun _ => True) s_.1 y139) ∧ (Kd.R Kd.bool 4 w' w.heap.size (fun _ => True) s_.2 y142) ∧ (Kd.V Kd.string 9 w' w.heap.size ok_ (.slice Ao22 t113.length co22) t113) ∧ (Kd.V Kd.bool 4 w' w.heap.size ok_ (.slice Ao24 t116.length co24) t116) ∧ (Kd.V Kd.string 9 w' w.heap.size ok_ (.slice Ao27 t121.length co27) t121) ∧ (Kd.V Kd.bool 4 w' w.heap.size ok_ (.slice Ao30 t124.length co30) t124) ∧ (Kd.V Kd.string 9 w' w.heap.size ok_ (.slice Ao34 t129.length co34) t129) ∧ (Kd.V Kd.bool 4 w' w.heap.size ok_ (.slice Ao38 t132.length co38) t132) ∧ (Kd.R k55 55 w' w.heap.size (fun _ => True) (.slice Ao15 t102.length co15) t102) ∧ (w'.heap[gb120]? = some (.cells #[.slice Ao22 t113.length co22, .slice Ao24 t116.length co24] 32 (0, 0))) ∧ (w'.heap[gb128]? = some (.cells #[.slice Ao27 t121.length co27, .slice Ao30 t124.length co30] 32 (0, 0))) ∧ (w'.heap[gb136]? = some (.cells #[.slice Ao34 t129.length co34, .slice Ao38 t132.length co38] 32 (0, 0))) ∧ (Below w.heap.size w w')) (fun k_ => some k_ ≠ (s_.1 : Value).ownBlock ∧ some k_ ≠ (s_.2 : Value).ownBlock ∧ some k_ ≠ (.slice Ao15 t102.length co15 : Value).ownBlock ∧ k_ ≠ gb120 ∧ k_ ≠ gb128 ∧ k_ ≠ gb136)) ?_ ?_
       rotate_left
       ·intro hJ3_4;refine join_ (σ := Value × Nat) 4 #[zt, zt, zt, zt, zu, zt, zt, zu, zu, zt, zu] (fun s_ => [(97, s_.1), (18, .pointer (some ⟨s_.2, 0, none⟩))]) (fun s_ w' => (fun (ok_ : Nat → Prop) => (w'.cell? ⟨gb120, 0, none⟩ = some (.slice Ao22 t113.length co22) ∧ w'.cell? ⟨gb120, 1, none⟩ = some (.slice Ao24 t116.length co24)) ∧ (Kd.R Kd.string 9 w' w.heap.size (fun _ => True) s_.1 y139) ∧ (Kd.V Kd.string 9 w' w.heap.size ok_ (.slice Ao22 t113.length co22) t113) ∧ (Kd.V Kd.bool 4 w' w.heap.size ok_ (.slice Ao24 t116.length co24) t116) ∧ (Kd.V Kd.string 9 w' w.heap.size ok_ (.slice Ao27 t121.length co27) t121) ∧ (Kd.V Kd.bool 4 w' w.heap.size ok_ (.slice Ao30 t124.length co30) t124) ∧ (Kd.V Kd.string 9 w' w.heap.size ok_ (.slice Ao34 t129.length co34) t129) ∧ (Kd.V Kd.bool 4 w' w.heap.size ok_ (.slice Ao38 t132.length co38) t132) ∧ (Kd.R k55 55 w' w.heap.size (fun _ => True) (.slice Ao15 t102.length co15) t102) ∧ (w'.heap[gb120]? = some (.cells #[.slice Ao22 t113.length co22, .slice Ao24 t116.length co24] 32 (0, 0))) ∧ (w'.heap[gb128]? = some (.cells #[.slice Ao27 t121.length co27, .slice Ao30 t124.length co30] 32 (0, 0))) ∧ (w'.heap[gb136]? = some (.cells #[.slice Ao34 t129.length co34, .slice Ao38 t132.length co38] 32 (0, 0))) ∧ (w'.heap[s_.2]? = some (.cells #[.slice none 0 0, .slice none 0 0] 32 (0, 0))) ∧ (w.heap.size ≤ s_.2) ∧ (w.heap.size ≤ s_.2) ∧ (gb120 ≠ s_.2) ∧ (s_.2 ≠ gb120) ∧ (gb128 ≠ s_.2) ∧ (s_.2 ≠ gb128) ∧ (gb136 ≠ s_.2) ∧ (s_.2 ≠ gb136) ∧ (Below w.heap.size w w')) (fun k_ => some k_ ≠ (s_.1 : Value).ownBlock ∧ some k_ ≠ (.slice Ao15 t102.length co15 : Value).ownBlock ∧ k_ ≠ gb120 ∧ k_ ≠ gb128 ∧ k_ ≠ gb136 ∧ k_ ≠ s_.2)) ?_ ?_
        rotate_left
        ·intro hJ3_9;refine join_ (σ := Value × Value) 4 #[zt, zt, zt, zu, zt, zt, zt, zt, zu, zu, zu] (fun s_ => [(98, s_.1), (101, s_.2)]) (fun s_ w' => (fun (ok_ : Nat → Prop) => (w'.cell? ⟨gb120, 0, none⟩ = some (.slice Ao22 t113.length co22) ∧ w'.cell? ⟨gb120, 1, none⟩ = some (.slice Ao24 t116.length co24)) ∧ (Kd.R Kd.bool 4 w' w.heap.size (fun _ => True) s_.2 y145) ∧ (Kd.V Kd.string 9 w' w.heap.size ok_ (.slice Ao22 t113.length co22) t113) ∧ (Kd.V Kd.bool 4 w' w.heap.size ok_ (.slice Ao24 t116.length co24) t116) ∧ (Kd.V Kd.string 9 w' w.heap.size ok_ (.slice Ao27 t121.length co27) t121) ∧ (Kd.V Kd.bool 4 w' w.heap.size ok_ (.slice Ao30 t124.length co30) t124) ∧ (Kd.V Kd.string 9 w' w.heap.size ok_ (.slice Ao34 t129.length co34) t129) ∧ (Kd.V Kd.bool 4 w' w.heap.size ok_ (.slice Ao38 t132.length co38) t132) ∧ (Kd.R k55 55 w' w.heap.size (fun _ => True) (.slice Ao15 t102.length co15) t102) ∧ (w'.heap[gb120]? = some (.cells #[.slice Ao22 t113.length co22, .slice Ao24 t116.length co24] 32 (0, 0))) ∧ (w'.heap[gb128]? = some (.cells #[.slice Ao27 t121.length co27, .slice Ao30 t124.length co30] 32 (0, 0))) ∧ (w'.heap[gb136]? = some (.cells #[.slice Ao34 t129.length co34, .slice Ao38 t132.length co38] 32 (0, 0))) ∧ (Below w.heap.size w w')) (fun k_ => some k_ ≠ (s_.2 : Value).ownBlock ∧ some k_ ≠ (.slice Ao15 t102.length co15 : Value).ownBlock ∧ k_ ≠ gb120 ∧ k_ ≠ gb128 ∧ k_ ≠ gb136)) ?_ ?_
         rotate_left
         ·intro hJ4_7;refine join_ (σ := Value × Nat) 4 #[zt, zt, zt, zu, zt, zt, zt, zu, zu, zt, zu] (fun s_ => [(98, s_.1), (18, .pointer (some ⟨s_.2, 0, none⟩))]) (fun s_ w' => (fun (ok_ : Nat → Prop) => (w'.cell? ⟨gb120, 0, none⟩ = some (.slice Ao22 t113.length co22) ∧ w'.cell? ⟨gb120, 1, none⟩ = some (.slice Ao24 t116.length co24)) ∧ (Kd.R Kd.bool 4 w' w.heap.size (fun _ => True) s_.1 y142) ∧ (Kd.V Kd.string 9 w' w.heap.size ok_ (.slice Ao22 t113.length co22) t113) ∧ (Kd.V Kd.bool 4 w' w.heap.size ok_ (.slice Ao24 t116.length co24) t116) ∧ (Kd.V Kd.string 9 w' w.heap.size ok_ (.slice Ao27 t121.length co27) t121) ∧ (Kd.V Kd.bool 4 w' w.heap.size ok_ (.slice Ao30 t124.length co30) t124) ∧ (Kd.V Kd.string 9 w' w.heap.size ok_ (.slice Ao34 t129.length co34) t129) ∧ (Kd.V Kd.bool 4 w' w.heap.size ok_ (.slice Ao38 t132.length co38) t132) ∧ (Kd.R k55 55 w' w.heap.size (fun _ => True) (.slice Ao15 t102.length co15) t102) ∧ (w'.heap[gb120]? = some (.cells #[.slice Ao22 t113.length co22, .slice Ao24 t116.length co24] 32 (0, 0))) ∧ (w'.heap[gb128]? = some (.cells #[.slice Ao27 t121.length co27, .slice Ao30 t124.length co30] 32 (0, 0))) ∧ (w'.heap[gb136]? = some (.cells #[.slice Ao34 t129.length co34, .slice Ao38 t132.length co38] 32 (0, 0))) ∧ (w'.heap[s_.2]? = some (.cells #[.slice none 0 0, .slice none 0 0] 32 (0, 0))) ∧ (w.heap.size ≤ s_.2) ∧ (w.heap.size ≤ s_.2) ∧ (gb120 ≠ s_.2) ∧ (s_.2 ≠ gb120) ∧ (gb128 ≠ s_.2) ∧ (s_.2 ≠ gb128) ∧ (gb136 ≠ s_.2) ∧ (s_.2 ≠ gb136) ∧ (Below w.heap.size w w')) (fun k_ => some k_ ≠ (s_.1 : Value).ownBlock ∧ some k_ ≠ (.slice Ao15 t102.length co15 : Value).ownBlock ∧ k_ ≠ gb120 ∧ k_ ≠ gb128 ∧ k_ ≠ gb136 ∧ k_ ≠ s_.2)) ?_ ?_
          rotate_left
          ·intro hJ4_9;refine join_ (σ := Value) 5 #[zt, zt, zt, zt, zu, zt, zt, zu, zu, zu, zu] (fun s_ => [(97, s_)]) (fun s_ w' => (fun (ok_ : Nat → Prop) => (w'.cell? ⟨gb120, 0, none⟩ = some (.slice Ao22 t113.length co22) ∧ w'.cell? ⟨gb120, 1, none⟩ = some (.slice Ao24 t116.length co24)) ∧ (Kd.R Kd.string 9 w' w.heap.size (fun _ => True) s_ y139) ∧ (Kd.V Kd.string 9 w' w.heap.size ok_ (.slice Ao22 t113.length co22) t113) ∧ (Kd.V Kd.bool 4 w' w.heap.size ok_ (.slice Ao24 t116.length co24) t116) ∧ (Kd.V Kd.string 9 w' w.heap.size ok_ (.slice Ao27 t121.length co27) t121) ∧ (Kd.V Kd.bool 4 w' w.heap.size ok_ (.slice Ao30 t124.length co30) t124) ∧ (Kd.V Kd.string 9 w' w.heap.size ok_ (.slice Ao34 t129.length co34) t129) ∧ (Kd.V Kd.bool 4 w' w.heap.size ok_ (.slice Ao38 t132.length co38) t132) ∧ (Kd.R k55 55 w' w.heap.size (fun _ => True) (.slice Ao15 t102.length co15) t102) ∧ (w'.heap[gb120]? = some (.cells #[.slice Ao22 t113.length co22, .slice Ao24 t116.length co24] 32 (0, 0))) ∧ (w'.heap[gb128]? = some (.cells #[.slice Ao27 t121.length co27, .slice Ao30 t124.length co30] 32 (0, 0))) ∧ (w'.heap[gb136]? = some (.cells #[.slice Ao34 t129.length co34, .slice Ao38 t132.length co38] 32 (0, 0))) ∧ (Below w.heap.size w w')) (fun k_ => some k_ ≠ (s_ : Value).ownBlock ∧ some k_ ≠ (.slice Ao15 t102.length co15 : Value).ownBlock ∧ k_ ≠ gb120 ∧ k_ ≠ gb128 ∧ k_ ≠ gb136)) ?_ ?_
           rotate_left
           ·intro hJ3;refine join_ (σ := Value) 5 #[zt, zt, zt, zu, zt, zt, zt, zu, zu, zu, zu] (fun s_ => [(98, s_)]) (fun s_ w' => (fun (ok_ : Nat → Prop) => (w'.cell? ⟨gb120, 0, none⟩ = some (.slice Ao22 t113.length co22) ∧ w'.cell? ⟨gb120, 1, none⟩ = some (.slice Ao24 t116.length co24)) ∧ (Kd.R Kd.bool 4 w' w.heap.size (fun _ => True) s_ y142) ∧ (Kd.V Kd.string 9 w' w.heap.size ok_ (.slice Ao22 t113.length co22) t113) ∧ (Kd.V Kd.bool 4 w' w.heap.size ok_ (.slice Ao24 t116.length co24) t116) ∧ (Kd.V Kd.string 9 w' w.heap.size ok_ (.slice Ao27 t121.length co27) t121) ∧ (Kd.V Kd.bool 4 w' w.heap.size ok_ (.slice Ao30 t124.length co30) t124) ∧ (Kd.V Kd.string 9 w' w.heap.size ok_ (.slice Ao34 t129.length co34) t129) ∧ (Kd.V Kd.bool 4 w' w.heap.size ok_ (.slice Ao38 t132.length co38) t132) ∧ (Kd.R k55 55 w' w.heap.size (fun _ => True) (.slice Ao15 t102.length co15) t102) ∧ (w'.heap[gb120]? = some (.cells #[.slice Ao22 t113.length co22, .slice Ao24 t116.length co24] 32 (0, 0))) ∧ (w'.heap[gb128]? = some (.cells #[.slice Ao27 t121.length co27, .slice Ao30 t124.length co30] 32 (0, 0))) ∧ (w'.heap[gb136]? = some (.cells #[.slice Ao34 t129.length co34, .slice Ao38 t132.length co38] 32 (0, 0))) ∧ (Below w.heap.size w w')) (fun k_ => some k_ ≠ (s_ : Value).ownBlock ∧ some k_ ≠ (.slice Ao15 t102.length co15 : Value).ownBlock ∧ k_ ≠ gb120 ∧ k_ ≠ gb128 ∧ k_ ≠ gb136)) ?_ ?_
            rotate_left
            ·intro hJ4;refine join_ (σ := Nat) 5 #[zt, zt, zt, zu, zu, zt, zt, zu, zu, zt, zu] (fun s_ => [(18, .pointer (some ⟨s_, 0, none⟩))]) (fun s_ w' => (fun (ok_ : Nat → Prop) => (w'.cell? ⟨gb120, 0, none⟩ = some (.slice Ao22 t113.length co22) ∧ w'.cell? ⟨gb120, 1, none⟩ = some (.slice Ao24 t116.length co24)) ∧ (Kd.V Kd.string 9 w' w.heap.size ok_ (.slice Ao22 t113.length co22) t113) ∧ (Kd.V Kd.bool 4 w' w.heap.size ok_ (.slice Ao24 t116.length co24) t116) ∧ (Kd.V Kd.string 9 w' w.heap.size ok_ (.slice Ao27 t121.length co27) t121) ∧ (Kd.V Kd.bool 4 w' w.heap.size ok_ (.slice Ao30 t124.length co30) t124) ∧ (Kd.V Kd.string 9 w' w.heap.size ok_ (.slice Ao34 t129.length co34) t129) ∧ (Kd.V Kd.bool 4 w' w.heap.size ok_ (.slice Ao38 t132.length co38) t132) ∧ (Kd.R k55 55 w' w.heap.size (fun _ => True) (.slice Ao15 t102.length co15) t102) ∧ (w'.heap[gb120]? = some (.cells #[.slice Ao22 t113.length co22, .slice Ao24 t116.length co24] 32 (0, 0))) ∧ (w'.heap[gb128]? = some (.cells #[.slice Ao27 t121.length co27, .slice Ao30 t124.length co30] 32 (0, 0))) ∧ (w'.heap[gb136]? = some (.cells #[.slice Ao34 t129.length co34, .slice Ao38 t132.length co38] 32 (0, 0))) ∧ (w'.heap[s_]? = some (.cells #[.slice none 0 0, .slice none 0 0] 32 (0, 0))) ∧ (w.heap.size ≤ s_) ∧ (w.heap.size ≤ s_) ∧ (gb120 ≠ s_) ∧ (s_ ≠ gb120) ∧ (gb128 ≠ s_) ∧ (s_ ≠ gb128) ∧ (gb136 ≠ s_) ∧ (s_ ≠ gb136) ∧ (Below w.heap.size w w')) (fun k_ => some k_ ≠ (.slice Ao15 t102.length co15 : Value).ownBlock ∧ k_ ≠ gb120 ∧ k_ ≠ gb128 ∧ k_ ≠ gb136 ∧ k_ ≠ s_)) ?_ ?_
             rotate_left
             ·intro hJ9;refine three_ (i := 3) (j := 4) (k := 9) (Ni := some 97) (Nj := some 98) (Nk := some 18) #[zt, zt, zt, zt, zu, zt, zt, zu, zu, zu, zu] #[zt, zt, zt, zu, zt, zt, zt, zu, zu, zu, zu] #[zt, zt, zt, zu, zu, zt, zt, zu, zu, zt, zu] rfl rfl rfl rfl rfl rfl (three_of HT_.out (by kernel_rfl)) (by decide) (by decide) (by decide) (fun K hK => ?_) (fun K hK => ?_) (fun K hK => ?_)
              ·skip
               refine R_make_step Kd.string _ 9 (by rfl) (N := 97) rfl 29 _ _ rfl (t113.length : Int) rfl rfl Tryd.underlying29 (.string ⟨#[]⟩) 16 info9 rfl (by decide) (by omega) (⟨#[]⟩ : ByteArray) (ok := fun _ => True) (okp := fun _ => True) rfl (fun _ hk => hk) trivial (of_decide_eq_true (by assumption)) (Nat.le_trans (Nat.mul_le_mul_right _ (of_decide_eq_true (by assumption) : (t113.length : Int).toNat ≤ 17592186044416)) (by omega)) (Below.refl _ _) (Nat.le_refl _) ?_
               intro v140 w69 ho70 hb hg_ hnew_;clear hg_ hnew_;(first | rw [← Ny139.out] at ho70 | (simp only [Int.reduceToNat] at ho70; rw [← Ny139.out] at ho70))
               replace HO_8 := Am (R_below (zR HO_8) hb);replace HO_121000 := Am (Kd.V_elder' (zV HO_121000) (R_base ho70) hb);replace HO_121001 := Am (Kd.V_elder' (zV HO_121001) (R_base ho70) hb);replace HO_129000 := Am (Kd.V_elder' (zV HO_129000) (R_base ho70) hb);replace HO_129001 := Am (Kd.V_elder' (zV HO_129001) (R_base ho70) hb);replace HO_137000 := Am (Kd.V_elder' (zV HO_137000) (R_base ho70) hb);replace HO_137001 := Am (Kd.V_elder' (zV HO_137001) (R_base ho70) hb);have HO141 := Am (R_lower ho70 (below_size (zB HB)));replace BK120 := Am (zU BK120 hb);replace BK128 := Am (zU BK128 hb);replace BK136 := Am (zU BK136 hb);replace HB := Am (below_step (zB HB) hb);clear hb ho70;refine hK.out _ _ ⟨(blk_cell BK120.out 0).trans rfl, (blk_cell BK120.out 1).trans rfl⟩ (fun hHeld => ?_)
               clear hK K;refine norm_ (a' := ?_) ?_ ?_
               rotate_left
               ·show Act.put _ (some 97) _ = _
                simp only [Act.put, zS, i64_w, i32_w]
                rfl
               exact norm_ zno (hJ3 (v140) _ ⟨hHeld, (zR HO141), (zv HO_121000), (zv HO_121001), (zv HO_129000), (zv HO_129001), (zv HO_137000), (zv HO_137001), (zR HO_8), (zK BK120), (zK BK128), (zK BK136), (zB HB)⟩)
              ·skip
               refine R_lit_step Kd.bool _ 4 ?hg (N := 98) ?hd (xs := ([] : List Bool)) (inner := []) (ok := fun _ => True) (okp := fun _ => True) ?hr ?hp (fun _ hk => hk) trivial (Below.refl _ _) (Nat.le_refl _) (by simp) ?_; (case hd => rfl); (case hg => rfl); (case hr => first | (go_simp; done) | (go_simp; rfl)); (case hp => exact (Reps.none _ _))
               intro v143 w69 ho70 hb hg_ hnew_;clear hg_ hnew_;(first | rw [← Ny142.out] at ho70 | (simp only [Int.reduceToNat] at ho70; rw [← Ny142.out] at ho70))
               replace HO_8 := Am (R_below (zR HO_8) hb);replace HO_121000 := Am (Kd.V_elder' (zV HO_121000) (R_base ho70) hb);replace HO_121001 := Am (Kd.V_elder' (zV HO_121001) (R_base ho70) hb);replace HO_129000 := Am (Kd.V_elder' (zV HO_129000) (R_base ho70) hb);replace HO_129001 := Am (Kd.V_elder' (zV HO_129001) (R_base ho70) hb);replace HO_137000 := Am (Kd.V_elder' (zV HO_137000) (R_base ho70) hb);replace HO_137001 := Am (Kd.V_elder' (zV HO_137001) (R_base ho70) hb);have HO144 := Am (R_lower ho70 (below_size (zB HB)));replace BK120 := Am (zU BK120 hb);replace BK128 := Am (zU BK128 hb);replace BK136 := Am (zU BK136 hb);replace HB := Am (below_step (zB HB) hb);clear hb ho70;refine hK.out _ _ ⟨(blk_cell BK120.out 0).trans rfl, (blk_cell BK120.out 1).trans rfl⟩ (fun hHeld => ?_)
               clear hK K;refine norm_ (a' := ?_) ?_ ?_
               rotate_left
               ·show Act.put _ (some 98) _ = _
                simp only [Act.put, zS, i64_w, i32_w]
                rfl
               exact norm_ zno (hJ4 (v143) _ ⟨hHeld, (zR HO144), (zv HO_121000), (zv HO_121001), (zv HO_129000), (zv HO_129001), (zv HO_137000), (zv HO_137001), (zR HO_8), (zK BK120), (zK BK128), (zK BK136), (zB HB)⟩)
              ·skip
               refine box_step ?hg (N := 18) ?hd (cs := #[.slice none 0 0, .slice none 0 0]) (t := 32) ?hr ?_; (case hd => rfl); (case hg => rfl); (case hr => first | (go_simp; done) | (go_simp; rfl))
               intro gb148 hg w69 hbox hb;replace HO_8 := Am (R_below (zR HO_8) hb);replace HO_121000 := Am (Kd.V_below (Kd.V_elderB (zV HO_121000) gb148 (Nat.le_of_eq hg.symm)) hb);replace HO_121001 := Am (Kd.V_below (Kd.V_elderB (zV HO_121001) gb148 (Nat.le_of_eq hg.symm)) hb);replace HO_129000 := Am (Kd.V_below (Kd.V_elderB (zV HO_129000) gb148 (Nat.le_of_eq hg.symm)) hb);replace HO_129001 := Am (Kd.V_below (Kd.V_elderB (zV HO_129001) gb148 (Nat.le_of_eq hg.symm)) hb);replace HO_137000 := Am (Kd.V_below (Kd.V_elderB (zV HO_137000) gb148 (Nat.le_of_eq hg.symm)) hb);replace HO_137001 := Am (Kd.V_below (Kd.V_elderB (zV HO_137001) gb148 (Nat.le_of_eq hg.symm)) hb);have BK148 := Am (hbox);have GW148 := Am (zO (w := w) HB hg);have GE148 := Am (zO (w := w) HB hg);replace HB := Am (below_step (zB HB) hb);have NB120_148 := Am ((by rw [hg]; exact Nat.ne_of_lt (zL BK120) : gb120 ≠ gb148));have NB148_120 := Am ((by rw [hg]; exact Nat.ne_of_gt (zL BK120) : gb148 ≠ gb120));replace BK120 := Am (zU BK120 hb);have NB128_148 := Am ((by rw [hg]; exact Nat.ne_of_lt (zL BK128) : gb128 ≠ gb148));have NB148_128 := Am ((by rw [hg]; exact Nat.ne_of_gt (zL BK128) : gb148 ≠ gb128));replace BK128 := Am (zU BK128 hb);have NB136_148 := Am ((by rw [hg]; exact Nat.ne_of_lt (zL BK136) : gb136 ≠ gb148));have NB148_136 := Am ((by rw [hg]; exact Nat.ne_of_gt (zL BK136) : gb148 ≠ gb136));replace BK136 := Am (zU BK136 hb);clear hb hbox hg;refine hK.out _ _ ⟨(blk_cell BK120.out 0).trans rfl, (blk_cell BK120.out 1).trans rfl⟩ (fun hHeld => ?_)
               clear hK K;refine norm_ (a' := ?_) ?_ ?_
               rotate_left
               ·show Act.put _ (some 18) _ = _
                simp only [Act.put, zS, i64_w, i32_w]
                rfl
               exact norm_ zno (hJ9 (gb148) _ ⟨hHeld, (zv HO_121000), (zv HO_121001), (zv HO_129000), (zv HO_129001), (zv HO_137000), (zv HO_137001), (zR HO_8), (zK BK120), (zK BK128), (zK BK136), (zK BK148), GW148.out, GE148.out, NB120_148.out, NB148_120.out, NB128_148.out, NB148_128.out, NB136_148.out, NB148_136.out, (zB HB)⟩)
             ·skip
              rintro gb148 w70 ⟨hS_, h0_, h1_, h2_, h3_, h4_, h5_, h6_, h7_, h8_, h9_, h10_, h11_, h12_, h13_, h14_, h15_, h16_, h17_, h18_, h19_⟩
              (try dsimp only at h0_ h1_ h2_ h3_ h4_ h5_ h6_ h7_ h8_ h9_ h10_ h11_ h12_ h13_ h14_ h15_ h16_ h17_ h18_ h19_);clear HO_8 HO_121000 HO_121001 HO_129000 HO_129001 HO_137000 HO_137001 BK120 BK128 BK136 HB;have HO_121000 := Am h0_;have HO_121001 := Am h1_;have HO_129000 := Am h2_;have HO_129001 := Am h3_;have HO_137000 := Am h4_;have HO_137001 := Am h5_;have HO_8 := Am h6_;have BK120 := Am h7_;have BK128 := Am h8_;have BK136 := Am h9_;have BK148 := Am h10_;have GW148 := Am h11_;have GE148 := Am h12_;have NB120_148 := Am h13_;have NB148_120 := Am h14_;have NB128_148 := Am h15_;have NB148_128 := Am h16_;have NB136_148 := Am h17_;have NB148_136 := Am h18_;have HB := Am h19_;clear h0_ h1_ h2_ h3_ h4_ h5_ h6_ h7_ h8_ h9_ h10_ h11_ h12_ h13_ h14_ h15_ h16_ h17_ h18_ h19_;have hHeld := hS_
              refine norm_ (a' := ?_) ?_ ?_
              rotate_left
              ·simp only [putAll, Act.put, List.setIfInBounds_toArray, List.set_cons_zero, List.set_cons_succ]
               rfl
              refine two_ (i := 3) (j := 4) (Ni := some 97) (Nj := some 98) #[zt, zt, zt, zt, zu, zt, zt, zu, zu, zt, zu] #[zt, zt, zt, zu, zt, zt, zt, zu, zu, zt, zu] rfl rfl rfl rfl (two_of HT_.out (by kernel_rfl)) (by decide) (by decide) (fun K hK => ?_) (fun K hK => ?_)
              ·skip
               refine R_make_step Kd.string _ 9 (by rfl) (N := 97) rfl 29 _ _ rfl (t113.length : Int) rfl rfl Tryd.underlying29 (.string ⟨#[]⟩) 16 info9 rfl (by decide) (by omega) (⟨#[]⟩ : ByteArray) (ok := fun _ => True) (okp := fun _ => True) rfl (fun _ hk => hk) trivial (of_decide_eq_true (by assumption)) (Nat.le_trans (Nat.mul_le_mul_right _ (of_decide_eq_true (by assumption) : (t113.length : Int).toNat ≤ 17592186044416)) (by omega)) (Below.refl _ _) (Nat.le_refl _) ?_
               intro v140 w71 ho72 hb hg_ hnew_;clear hg_ hnew_;(first | rw [← Ny139.out] at ho72 | (simp only [Int.reduceToNat] at ho72; rw [← Ny139.out] at ho72))
               replace HO_8 := Am (R_below (zR HO_8) hb);replace HO_121000 := Am (Kd.V_elder' (zV HO_121000) (R_base ho72) hb);replace HO_121001 := Am (Kd.V_elder' (zV HO_121001) (R_base ho72) hb);replace HO_129000 := Am (Kd.V_elder' (zV HO_129000) (R_base ho72) hb);replace HO_129001 := Am (Kd.V_elder' (zV HO_129001) (R_base ho72) hb);replace HO_137000 := Am (Kd.V_elder' (zV HO_137000) (R_base ho72) hb);replace HO_137001 := Am (Kd.V_elder' (zV HO_137001) (R_base ho72) hb);have HO141 := Am (R_lower ho72 (below_size (zB HB)));replace BK120 := Am (zU BK120 hb);replace BK128 := Am (zU BK128 hb);replace BK136 := Am (zU BK136 hb);replace BK148 := Am (zU BK148 hb);replace HB := Am (below_step (zB HB) hb);clear hb ho72;refine hK.out _ _ ⟨(blk_cell BK120.out 0).trans rfl, (blk_cell BK120.out 1).trans rfl⟩ (fun hHeld => ?_)
               clear hK K;refine norm_ (a' := ?_) ?_ ?_
               rotate_left
               ·show Act.put _ (some 97) _ = _
                simp only [Act.put, zS, i64_w, i32_w]
                rfl
               exact norm_ zno (hJ3_9 (v140, gb148) _ ⟨hHeld, (zR HO141), (zv HO_121000), (zv HO_121001), (zv HO_129000), (zv HO_129001), (zv HO_137000), (zv HO_137001), (zR HO_8), (zK BK120), (zK BK128), (zK BK136), (zK BK148), GW148.out, GE148.out, NB120_148.out, NB148_120.out, NB128_148.out, NB148_128.out, NB136_148.out, NB148_136.out, (zB HB)⟩)
              ·skip
               refine R_lit_step Kd.bool _ 4 ?hg (N := 98) ?hd (xs := ([] : List Bool)) (inner := []) (ok := fun _ => True) (okp := fun _ => True) ?hr ?hp (fun _ hk => hk) trivial (Below.refl _ _) (Nat.le_refl _) (by simp) ?_; (case hd => rfl); (case hg => rfl); (case hr => first | (go_simp; done) | (go_simp; rfl)); (case hp => exact (Reps.none _ _))
               intro v143 w71 ho72 hb hg_ hnew_;clear hg_ hnew_;(first | rw [← Ny142.out] at ho72 | (simp only [Int.reduceToNat] at ho72; rw [← Ny142.out] at ho72))
               replace HO_8 := Am (R_below (zR HO_8) hb);replace HO_121000 := Am (Kd.V_elder' (zV HO_121000) (R_base ho72) hb);replace HO_121001 := Am (Kd.V_elder' (zV HO_121001) (R_base ho72) hb);replace HO_129000 := Am (Kd.V_elder' (zV HO_129000) (R_base ho72) hb);replace HO_129001 := Am (Kd.V_elder' (zV HO_129001) (R_base ho72) hb);replace HO_137000 := Am (Kd.V_elder' (zV HO_137000) (R_base ho72) hb);replace HO_137001 := Am (Kd.V_elder' (zV HO_137001) (R_base ho72) hb);have HO144 := Am (R_lower ho72 (below_size (zB HB)));replace BK120 := Am (zU BK120 hb);replace BK128 := Am (zU BK128 hb);replace BK136 := Am (zU BK136 hb);replace BK148 := Am (zU BK148 hb);replace HB := Am (below_step (zB HB) hb);clear hb ho72;refine hK.out _ _ ⟨(blk_cell BK120.out 0).trans rfl, (blk_cell BK120.out 1).trans rfl⟩ (fun hHeld => ?_)
               clear hK K;refine norm_ (a' := ?_) ?_ ?_
               rotate_left
               ·show Act.put _ (some 98) _ = _
                simp only [Act.put, zS, i64_w, i32_w]
                rfl
               exact norm_ zno (hJ4_9 (v143, gb148) _ ⟨hHeld, (zR HO144), (zv HO_121000), (zv HO_121001), (zv HO_129000), (zv HO_129001), (zv HO_137000), (zv HO_137001), (zR HO_8), (zK BK120), (zK BK128), (zK BK136), (zK BK148), GW148.out, GE148.out, NB120_148.out, NB148_120.out, NB128_148.out, NB148_128.out, NB136_148.out, NB148_136.out, (zB HB)⟩)
            ·skip
             rintro v143 w71 ⟨hS_, h0_, h1_, h2_, h3_, h4_, h5_, h6_, h7_, h8_, h9_, h10_, h11_⟩
             (try dsimp only at h0_ h1_ h2_ h3_ h4_ h5_ h6_ h7_ h8_ h9_ h10_ h11_);clear HO_8 HO_121000 HO_121001 HO_129000 HO_129001 HO_137000 HO_137001 BK120 BK128 BK136 HB;have HO144 := Am h0_;have HO_121000 := Am h1_;have HO_121001 := Am h2_;have HO_129000 := Am h3_;have HO_129001 := Am h4_;have HO_137000 := Am h5_;have HO_137001 := Am h6_;have HO_8 := Am h7_;have BK120 := Am h8_;have BK128 := Am h9_;have BK136 := Am h10_;have HB := Am h11_;clear h0_ h1_ h2_ h3_ h4_ h5_ h6_ h7_ h8_ h9_ h10_ h11_;have hHeld := hS_
             refine norm_ (a' := ?_) ?_ ?_
             rotate_left
             ·simp only [putAll, Act.put, List.setIfInBounds_toArray, List.set_cons_zero, List.set_cons_succ]
              rfl
             refine three_ (i := 3) (j := 7) (k := 9) (Ni := some 97) (Nj := some 101) (Nk := some 18) #[zt, zt, zt, zt, zt, zt, zt, zu, zu, zu, zu] #[zt, zt, zt, zu, zt, zt, zt, zt, zu, zu, zu] #[zt, zt, zt, zu, zt, zt, zt, zu, zu, zt, zu] rfl rfl rfl rfl rfl rfl (three_of HT_.out (by kernel_rfl)) (by decide) (by decide) (by decide) (fun K hK => ?_) (fun K hK => ?_) (fun K hK => ?_)
             ·skip
              refine R_make_step Kd.string _ 9 (by rfl) (N := 97) rfl 29 _ _ rfl (t113.length : Int) rfl rfl Tryd.underlying29 (.string ⟨#[]⟩) 16 info9 rfl (by decide) (by omega) (⟨#[]⟩ : ByteArray) (ok := fun _ => True) (okp := fun _ => True) rfl (fun _ hk => hk) trivial (of_decide_eq_true (by assumption)) (Nat.le_trans (Nat.mul_le_mul_right _ (of_decide_eq_true (by assumption) : (t113.length : Int).toNat ≤ 17592186044416)) (by omega)) (Below.refl _ _) (Nat.le_refl _) ?_
              intro v140 w72 ho73 hb hg_ hnew_;clear hg_ hnew_;(first | rw [← Ny139.out] at ho73 | (simp only [Int.reduceToNat] at ho73; rw [← Ny139.out] at ho73))
              replace HO_8 := Am (R_below (zR HO_8) hb);replace HO_121000 := Am (Kd.V_elder' (zV HO_121000) (R_base ho73) hb);replace HO_121001 := Am (Kd.V_elder' (zV HO_121001) (R_base ho73) hb);replace HO_129000 := Am (Kd.V_elder' (zV HO_129000) (R_base ho73) hb);replace HO_129001 := Am (Kd.V_elder' (zV HO_129001) (R_base ho73) hb);replace HO_137000 := Am (Kd.V_elder' (zV HO_137000) (R_base ho73) hb);replace HO_137001 := Am (Kd.V_elder' (zV HO_137001) (R_base ho73) hb);replace HO144 := Am (R_below (zR HO144) hb);have HO141 := Am (R_lower ho73 (below_size (zB HB)));replace BK120 := Am (zU BK120 hb);replace BK128 := Am (zU BK128 hb);replace BK136 := Am (zU BK136 hb);replace HB := Am (below_step (zB HB) hb);clear hb ho73;refine hK.out _ _ ⟨(blk_cell BK120.out 0).trans rfl, (blk_cell BK120.out 1).trans rfl⟩ (fun hHeld => ?_)
              clear hK K;refine norm_ (a' := ?_) ?_ ?_
              rotate_left
              ·show Act.put _ (some 97) _ = _
               simp only [Act.put, zS, i64_w, i32_w]
               rfl
              exact norm_ zno (hJ3_4 (v140, v143) _ ⟨hHeld, (zR HO141), (zR HO144), (zv HO_121000), (zv HO_121001), (zv HO_129000), (zv HO_129001), (zv HO_137000), (zv HO_137001), (zR HO_8), (zK BK120), (zK BK128), (zK BK136), (zB HB)⟩)
             ·skip
              refine R_append_rows_step Kd.bool (w0 := w) w.heap.size (by rfl) (.tmp 98) (.tmp 100) 30 4 (.bool false) 1 rfl Tryd.underlying30 info4 rfl (by decide) (by omega) v143 y142 t116 _ _ _ (fun _ => True) (fun _ => False) rfl rfl ?aO ?aR (fun _ _ h => h) (fun _ h => h.elim) ?aF ?aB ?aS ?aL ?_
              (case aR => repeat (first | exact (Kd.V_reads' HO_121001.out).2.2 | (with_reducible refine C_alloc ?_ _) | (with_reducible refine C_drewN ?_ _) | (with_reducible refine C_drew ?_)))
              (case aB => exact (zB HB))
              (case aF => exact (fun _ _ => trivial))
              (case aO => exact (zR HO144))
              (case aS => exact (below_size (zB HB)))
              (case aL => have := LMc67.out; omega)
              intro v146 w72 ho hb hg hat;rw [← Ny145.out] at ho
              replace HO_8 := Am (R_over' (zR HO_8) (R_typed (zR HO144)) (by decide) hg);replace HO_121000 := Am (zva HO_121000 hg hat);replace HO_121001 := Am (zva HO_121001 hg hat);replace HO_129000 := Am (zva HO_129000 hg hat);replace HO_129001 := Am (zva HO_129001 hg hat);replace HO_137000 := Am (zva HO_137000 hg hat);replace HO_137001 := Am (zva HO_137001 hg hat);replace BK120 := Am (zW BK120 hg (R_ne HO144.out BK120.out (by decide)));replace BK128 := Am (zW BK128 hg (R_ne HO144.out BK128.out (by decide)));replace BK136 := Am (zW BK136 hg (R_ne HO144.out BK136.out (by decide)));replace HB := Am (hb);have HO147 := Am (ho);clear HO144 ho hb hg hat;refine hK.out _ _ ⟨(blk_cell BK120.out 0).trans rfl, (blk_cell BK120.out 1).trans rfl⟩ (fun hHeld => ?_)
              clear hK K;refine norm_ (a' := ?_) ?_ ?_
              rotate_left
              ·show Act.put _ (some 101) _ = _
               simp only [Act.put, zS, i64_w, i32_w]
               rfl
              exact norm_ zno (hJ4_7 (v143, v146) _ ⟨hHeld, (zR HO147), (zv HO_121000), (zv HO_121001), (zv HO_129000), (zv HO_129001), (zv HO_137000), (zv HO_137001), (zR HO_8), (zK BK120), (zK BK128), (zK BK136), (zB HB)⟩)
             ·skip
              refine box_step ?hg (N := 18) ?hd (cs := #[.slice none 0 0, .slice none 0 0]) (t := 32) ?hr ?_; (case hd => rfl); (case hg => rfl); (case hr => first | (go_simp; done) | (go_simp; rfl))
              intro gb148 hg w72 hbox hb;replace HO_8 := Am (R_below (zR HO_8) hb);replace HO_121000 := Am (Kd.V_below (Kd.V_elderB (zV HO_121000) gb148 (Nat.le_of_eq hg.symm)) hb);replace HO_121001 := Am (Kd.V_below (Kd.V_elderB (zV HO_121001) gb148 (Nat.le_of_eq hg.symm)) hb);replace HO_129000 := Am (Kd.V_below (Kd.V_elderB (zV HO_129000) gb148 (Nat.le_of_eq hg.symm)) hb);replace HO_129001 := Am (Kd.V_below (Kd.V_elderB (zV HO_129001) gb148 (Nat.le_of_eq hg.symm)) hb);replace HO_137000 := Am (Kd.V_below (Kd.V_elderB (zV HO_137000) gb148 (Nat.le_of_eq hg.symm)) hb);replace HO_137001 := Am (Kd.V_below (Kd.V_elderB (zV HO_137001) gb148 (Nat.le_of_eq hg.symm)) hb);replace HO144 := Am (R_below (zR HO144) hb);have BK148 := Am (hbox);have GW148 := Am (zO (w := w) HB hg);have GE148 := Am (zO (w := w) HB hg);replace HB := Am (below_step (zB HB) hb);have NB120_148 := Am ((by rw [hg]; exact Nat.ne_of_lt (zL BK120) : gb120 ≠ gb148));have NB148_120 := Am ((by rw [hg]; exact Nat.ne_of_gt (zL BK120) : gb148 ≠ gb120));replace BK120 := Am (zU BK120 hb);have NB128_148 := Am ((by rw [hg]; exact Nat.ne_of_lt (zL BK128) : gb128 ≠ gb148));have NB148_128 := Am ((by rw [hg]; exact Nat.ne_of_gt (zL BK128) : gb148 ≠ gb128));replace BK128 := Am (zU BK128 hb);have NB136_148 := Am ((by rw [hg]; exact Nat.ne_of_lt (zL BK136) : gb136 ≠ gb148));have NB148_136 := Am ((by rw [hg]; exact Nat.ne_of_gt (zL BK136) : gb148 ≠ gb136));replace BK136 := Am (zU BK136 hb);clear hb hbox hg;refine hK.out _ _ ⟨(blk_cell BK120.out 0).trans rfl, (blk_cell BK120.out 1).trans rfl⟩ (fun hHeld => ?_)
              clear hK K;refine norm_ (a' := ?_) ?_ ?_
              rotate_left
              ·show Act.put _ (some 18) _ = _
               simp only [Act.put, zS, i64_w, i32_w]
               rfl
              exact norm_ zno (hJ4_9 (v143, gb148) _ ⟨hHeld, (zR HO144), (zv HO_121000), (zv HO_121001), (zv HO_129000), (zv HO_129001), (zv HO_137000), (zv HO_137001), (zR HO_8), (zK BK120), (zK BK128), (zK BK136), (zK BK148), GW148.out, GE148.out, NB120_148.out, NB148_120.out, NB128_148.out, NB148_128.out, NB136_148.out, NB148_136.out, (zB HB)⟩)
           ·skip
            rintro v140 w71 ⟨hS_, h0_, h1_, h2_, h3_, h4_, h5_, h6_, h7_, h8_, h9_, h10_, h11_⟩
            (try dsimp only at h0_ h1_ h2_ h3_ h4_ h5_ h6_ h7_ h8_ h9_ h10_ h11_);clear HO_8 HO_121000 HO_121001 HO_129000 HO_129001 HO_137000 HO_137001 BK120 BK128 BK136 HB;have HO141 := Am h0_;have HO_121000 := Am h1_;have HO_121001 := Am h2_;have HO_129000 := Am h3_;have HO_129001 := Am h4_;have HO_137000 := Am h5_;have HO_137001 := Am h6_;have HO_8 := Am h7_;have BK120 := Am h8_;have BK128 := Am h9_;have BK136 := Am h10_;have HB := Am h11_;clear h0_ h1_ h2_ h3_ h4_ h5_ h6_ h7_ h8_ h9_ h10_ h11_;have hHeld := hS_
            refine norm_ (a' := ?_) ?_ ?_
            rotate_left
            ·simp only [putAll, Act.put, List.setIfInBounds_toArray, List.set_cons_zero, List.set_cons_succ]
             rfl
            refine two_ (i := 4) (j := 9) (Ni := some 98) (Nj := some 18) #[zt, zt, zt, zt, zt, zt, zt, zu, zu, zu, zu] #[zt, zt, zt, zt, zu, zt, zt, zu, zu, zt, zu] rfl rfl rfl rfl (two_of HT_.out (by kernel_rfl)) (by decide) (by decide) (fun K hK => ?_) (fun K hK => ?_)
            ·skip
             refine R_lit_step Kd.bool _ 4 ?hg (N := 98) ?hd (xs := ([] : List Bool)) (inner := []) (ok := fun _ => True) (okp := fun _ => True) ?hr ?hp (fun _ hk => hk) trivial (Below.refl _ _) (Nat.le_refl _) (by simp) ?_; (case hd => rfl); (case hg => rfl); (case hr => first | (go_simp; done) | (go_simp; rfl)); (case hp => exact (Reps.none _ _))
             intro v143 w72 ho73 hb hg_ hnew_;clear hg_ hnew_;(first | rw [← Ny142.out] at ho73 | (simp only [Int.reduceToNat] at ho73; rw [← Ny142.out] at ho73))
             replace HO_8 := Am (R_below (zR HO_8) hb);replace HO_121000 := Am (Kd.V_elder' (zV HO_121000) (R_base ho73) hb);replace HO_121001 := Am (Kd.V_elder' (zV HO_121001) (R_base ho73) hb);replace HO_129000 := Am (Kd.V_elder' (zV HO_129000) (R_base ho73) hb);replace HO_129001 := Am (Kd.V_elder' (zV HO_129001) (R_base ho73) hb);replace HO_137000 := Am (Kd.V_elder' (zV HO_137000) (R_base ho73) hb);replace HO_137001 := Am (Kd.V_elder' (zV HO_137001) (R_base ho73) hb);replace HO141 := Am (R_below (zR HO141) hb);have HO144 := Am (R_lower ho73 (below_size (zB HB)));replace BK120 := Am (zU BK120 hb);replace BK128 := Am (zU BK128 hb);replace BK136 := Am (zU BK136 hb);replace HB := Am (below_step (zB HB) hb);clear hb ho73;refine hK.out _ _ ⟨(blk_cell BK120.out 0).trans rfl, (blk_cell BK120.out 1).trans rfl⟩ (fun hHeld => ?_)
             clear hK K;refine norm_ (a' := ?_) ?_ ?_
             rotate_left
             ·show Act.put _ (some 98) _ = _
              simp only [Act.put, zS, i64_w, i32_w]
              rfl
             exact norm_ zno (hJ3_4 (v140, v143) _ ⟨hHeld, (zR HO141), (zR HO144), (zv HO_121000), (zv HO_121001), (zv HO_129000), (zv HO_129001), (zv HO_137000), (zv HO_137001), (zR HO_8), (zK BK120), (zK BK128), (zK BK136), (zB HB)⟩)
            ·skip
             refine box_step ?hg (N := 18) ?hd (cs := #[.slice none 0 0, .slice none 0 0]) (t := 32) ?hr ?_; (case hd => rfl); (case hg => rfl); (case hr => first | (go_simp; done) | (go_simp; rfl))
             intro gb148 hg w72 hbox hb;replace HO_8 := Am (R_below (zR HO_8) hb);replace HO_121000 := Am (Kd.V_below (Kd.V_elderB (zV HO_121000) gb148 (Nat.le_of_eq hg.symm)) hb);replace HO_121001 := Am (Kd.V_below (Kd.V_elderB (zV HO_121001) gb148 (Nat.le_of_eq hg.symm)) hb);replace HO_129000 := Am (Kd.V_below (Kd.V_elderB (zV HO_129000) gb148 (Nat.le_of_eq hg.symm)) hb);replace HO_129001 := Am (Kd.V_below (Kd.V_elderB (zV HO_129001) gb148 (Nat.le_of_eq hg.symm)) hb);replace HO_137000 := Am (Kd.V_below (Kd.V_elderB (zV HO_137000) gb148 (Nat.le_of_eq hg.symm)) hb);replace HO_137001 := Am (Kd.V_below (Kd.V_elderB (zV HO_137001) gb148 (Nat.le_of_eq hg.symm)) hb);replace HO141 := Am (R_below (zR HO141) hb);have BK148 := Am (hbox);have GW148 := Am (zO (w := w) HB hg);have GE148 := Am (zO (w := w) HB hg);replace HB := Am (below_step (zB HB) hb);have NB120_148 := Am ((by rw [hg]; exact Nat.ne_of_lt (zL BK120) : gb120 ≠ gb148));have NB148_120 := Am ((by rw [hg]; exact Nat.ne_of_gt (zL BK120) : gb148 ≠ gb120));replace BK120 := Am (zU BK120 hb);have NB128_148 := Am ((by rw [hg]; exact Nat.ne_of_lt (zL BK128) : gb128 ≠ gb148));have NB148_128 := Am ((by rw [hg]; exact Nat.ne_of_gt (zL BK128) : gb148 ≠ gb128));replace BK128 := Am (zU BK128 hb);have NB136_148 := Am ((by rw [hg]; exact Nat.ne_of_lt (zL BK136) : gb136 ≠ gb148));have NB148_136 := Am ((by rw [hg]; exact Nat.ne_of_gt (zL BK136) : gb148 ≠ gb136));replace BK136 := Am (zU BK136 hb);clear hb hbox hg;refine hK.out _ _ ⟨(blk_cell BK120.out 0).trans rfl, (blk_cell BK120.out 1).trans rfl⟩ (fun hHeld => ?_)
             clear hK K;refine norm_ (a' := ?_) ?_ ?_
             rotate_left
             ·show Act.put _ (some 18) _ = _
              simp only [Act.put, zS, i64_w, i32_w]
              rfl
             exact norm_ zno (hJ3_9 (v140, gb148) _ ⟨hHeld, (zR HO141), (zv HO_121000), (zv HO_121001), (zv HO_129000), (zv HO_129001), (zv HO_137000), (zv HO_137001), (zR HO_8), (zK BK120), (zK BK128), (zK BK136), (zK BK148), GW148.out, GE148.out, NB120_148.out, NB148_120.out, NB128_148.out, NB148_128.out, NB136_148.out, NB148_136.out, (zB HB)⟩)
          ·skip
           rintro ⟨v143, gb148⟩ w72 ⟨hS_, h0_, h1_, h2_, h3_, h4_, h5_, h6_, h7_, h8_, h9_, h10_, h11_, h12_, h13_, h14_, h15_, h16_, h17_, h18_, h19_, h20_⟩
           (try dsimp only at h0_ h1_ h2_ h3_ h4_ h5_ h6_ h7_ h8_ h9_ h10_ h11_ h12_ h13_ h14_ h15_ h16_ h17_ h18_ h19_ h20_);clear HO_8 HO_121000 HO_121001 HO_129000 HO_129001 HO_137000 HO_137001 BK120 BK128 BK136 HB;have HO144 := Am h0_;have HO_121000 := Am h1_;have HO_121001 := Am h2_;have HO_129000 := Am h3_;have HO_129001 := Am h4_;have HO_137000 := Am h5_;have HO_137001 := Am h6_;have HO_8 := Am h7_;have BK120 := Am h8_;have BK128 := Am h9_;have BK136 := Am h10_;have BK148 := Am h11_;have GW148 := Am h12_;have GE148 := Am h13_;have NB120_148 := Am h14_;have NB148_120 := Am h15_;have NB128_148 := Am h16_;have NB148_128 := Am h17_;have NB136_148 := Am h18_;have NB148_136 := Am h19_;have HB := Am h20_;clear h0_ h1_ h2_ h3_ h4_ h5_ h6_ h7_ h8_ h9_ h10_ h11_ h12_ h13_ h14_ h15_ h16_ h17_ h18_ h19_ h20_;have hHeld := hS_
           refine norm_ (a' := ?_) ?_ ?_
           rotate_left
           ·simp only [putAll, Act.put, List.setIfInBounds_toArray, List.set_cons_zero, List.set_cons_succ]
            rfl
           refine two_ (i := 3) (j := 7) (Ni := some 97) (Nj := some 101) #[zt, zt, zt, zt, zt, zt, zt, zu, zu, zt, zu] #[zt, zt, zt, zu, zt, zt, zt, zt, zu, zt, zu] rfl rfl rfl rfl (two_of HT_.out (by kernel_rfl)) (by decide) (by decide) (fun K hK => ?_) (fun K hK => ?_)
           ·skip
            refine R_make_step Kd.string _ 9 (by rfl) (N := 97) rfl 29 _ _ rfl (t113.length : Int) rfl rfl Tryd.underlying29 (.string ⟨#[]⟩) 16 info9 rfl (by decide) (by omega) (⟨#[]⟩ : ByteArray) (ok := fun _ => True) (okp := fun _ => True) rfl (fun _ hk => hk) trivial (of_decide_eq_true (by assumption)) (Nat.le_trans (Nat.mul_le_mul_right _ (of_decide_eq_true (by assumption) : (t113.length : Int).toNat ≤ 17592186044416)) (by omega)) (Below.refl _ _) (Nat.le_refl _) ?_
            intro v140 w73 ho74 hb hg_ hnew_;clear hg_ hnew_;(first | rw [← Ny139.out] at ho74 | (simp only [Int.reduceToNat] at ho74; rw [← Ny139.out] at ho74))
            replace HO_8 := Am (R_below (zR HO_8) hb);replace HO_121000 := Am (Kd.V_elder' (zV HO_121000) (R_base ho74) hb);replace HO_121001 := Am (Kd.V_elder' (zV HO_121001) (R_base ho74) hb);replace HO_129000 := Am (Kd.V_elder' (zV HO_129000) (R_base ho74) hb);replace HO_129001 := Am (Kd.V_elder' (zV HO_129001) (R_base ho74) hb);replace HO_137000 := Am (Kd.V_elder' (zV HO_137000) (R_base ho74) hb);replace HO_137001 := Am (Kd.V_elder' (zV HO_137001) (R_base ho74) hb);replace HO144 := Am (R_below (zR HO144) hb);have HO141 := Am (R_lower ho74 (below_size (zB HB)));replace BK120 := Am (zU BK120 hb);replace BK128 := Am (zU BK128 hb);replace BK136 := Am (zU BK136 hb);replace BK148 := Am (zU BK148 hb);replace HB := Am (below_step (zB HB) hb);clear hb ho74;refine hK.out _ _ ⟨(blk_cell BK120.out 0).trans rfl, (blk_cell BK120.out 1).trans rfl⟩ (fun hHeld => ?_)
            clear hK K;refine norm_ (a' := ?_) ?_ ?_
            rotate_left
            ·show Act.put _ (some 97) _ = _
             simp only [Act.put, zS, i64_w, i32_w]
             rfl
            exact norm_ zno (hJ3_4_9 (v140, v143, gb148) _ ⟨hHeld, (zR HO141), (zR HO144), (zv HO_121000), (zv HO_121001), (zv HO_129000), (zv HO_129001), (zv HO_137000), (zv HO_137001), (zR HO_8), (zK BK120), (zK BK128), (zK BK136), (zK BK148), GW148.out, GE148.out, NB120_148.out, NB148_120.out, NB128_148.out, NB148_128.out, NB136_148.out, NB148_136.out, (zB HB)⟩)
           ·skip
            refine R_append_rows_step Kd.bool (w0 := w) w.heap.size (by rfl) (.tmp 98) (.tmp 100) 30 4 (.bool false) 1 rfl Tryd.underlying30 info4 rfl (by decide) (by omega) v143 y142 t116 _ _ _ (fun _ => True) (fun _ => False) rfl rfl ?aO ?aR (fun _ _ h => h) (fun _ h => h.elim) ?aF ?aB ?aS ?aL ?_
            (case aR => repeat (first | exact (Kd.V_reads' HO_121001.out).2.2 | (with_reducible refine C_alloc ?_ _) | (with_reducible refine C_drewN ?_ _) | (with_reducible refine C_drew ?_)))
            (case aB => exact (zB HB))
            (case aF => exact (fun _ _ => trivial))
            (case aO => exact (zR HO144))
            (case aS => exact (below_size (zB HB)))
            (case aL => have := LMc67.out; omega)
            intro v146 w73 ho hb hg hat;rw [← Ny145.out] at ho
            replace HO_8 := Am (R_over' (zR HO_8) (R_typed (zR HO144)) (by decide) hg);replace HO_121000 := Am (zva HO_121000 hg hat);replace HO_121001 := Am (zva HO_121001 hg hat);replace HO_129000 := Am (zva HO_129000 hg hat);replace HO_129001 := Am (zva HO_129001 hg hat);replace HO_137000 := Am (zva HO_137000 hg hat);replace HO_137001 := Am (zva HO_137001 hg hat);replace BK120 := Am (zW BK120 hg (R_ne HO144.out BK120.out (by decide)));replace BK128 := Am (zW BK128 hg (R_ne HO144.out BK128.out (by decide)));replace BK136 := Am (zW BK136 hg (R_ne HO144.out BK136.out (by decide)));replace BK148 := Am (zW BK148 hg (R_ne HO144.out BK148.out (by decide)));replace HB := Am (hb);have HO147 := Am (ho);clear HO144 ho hb hg hat;refine hK.out _ _ ⟨(blk_cell BK120.out 0).trans rfl, (blk_cell BK120.out 1).trans rfl⟩ (fun hHeld => ?_)
            clear hK K;refine norm_ (a' := ?_) ?_ ?_
            rotate_left
            ·show Act.put _ (some 101) _ = _
             simp only [Act.put, zS, i64_w, i32_w]
             rfl
            exact norm_ zno (hJ4_7_9 (v143, v146, gb148) _ ⟨hHeld, (zR HO147), (zv HO_121000), (zv HO_121001), (zv HO_129000), (zv HO_129001), (zv HO_137000), (zv HO_137001), (zR HO_8), (zK BK120), (zK BK128), (zK BK136), (zK BK148), GW148.out, GE148.out, NB120_148.out, NB148_120.out, NB128_148.out, NB148_128.out, NB136_148.out, NB148_136.out, (zB HB)⟩)
         ·skip
          rintro ⟨v143, v146⟩ w72 ⟨hS_, h0_, h1_, h2_, h3_, h4_, h5_, h6_, h7_, h8_, h9_, h10_, h11_⟩
          (try dsimp only at h0_ h1_ h2_ h3_ h4_ h5_ h6_ h7_ h8_ h9_ h10_ h11_);clear HO_8 HO_121000 HO_121001 HO_129000 HO_129001 HO_137000 HO_137001 BK120 BK128 BK136 HB;have HO147 := Am h0_;have HO_121000 := Am h1_;have HO_121001 := Am h2_;have HO_129000 := Am h3_;have HO_129001 := Am h4_;have HO_137000 := Am h5_;have HO_137001 := Am h6_;have HO_8 := Am h7_;have BK120 := Am h8_;have BK128 := Am h9_;have BK136 := Am h10_;have HB := Am h11_;clear h0_ h1_ h2_ h3_ h4_ h5_ h6_ h7_ h8_ h9_ h10_ h11_;have hHeld := hS_
          refine norm_ (a' := ?_) ?_ ?_
          rotate_left
          ·simp only [putAll, Act.put, List.setIfInBounds_toArray, List.set_cons_zero, List.set_cons_succ]
           rfl
          refine two_ (i := 3) (j := 9) (Ni := some 97) (Nj := some 18) #[zt, zt, zt, zt, zt, zt, zt, zt, zu, zu, zu] #[zt, zt, zt, zu, zt, zt, zt, zt, zu, zt, zu] rfl rfl rfl rfl (two_of HT_.out (by kernel_rfl)) (by decide) (by decide) (fun K hK => ?_) (fun K hK => ?_)
          ·skip
           refine R_make_step Kd.string _ 9 (by rfl) (N := 97) rfl 29 _ _ rfl (t113.length : Int) rfl rfl Tryd.underlying29 (.string ⟨#[]⟩) 16 info9 rfl (by decide) (by omega) (⟨#[]⟩ : ByteArray) (ok := fun _ => True) (okp := fun _ => True) rfl (fun _ hk => hk) trivial (of_decide_eq_true (by assumption)) (Nat.le_trans (Nat.mul_le_mul_right _ (of_decide_eq_true (by assumption) : (t113.length : Int).toNat ≤ 17592186044416)) (by omega)) (Below.refl _ _) (Nat.le_refl _) ?_
           intro v140 w73 ho74 hb hg_ hnew_;clear hg_ hnew_;(first | rw [← Ny139.out] at ho74 | (simp only [Int.reduceToNat] at ho74; rw [← Ny139.out] at ho74))
           replace HO_8 := Am (R_below (zR HO_8) hb);replace HO_121000 := Am (Kd.V_elder' (zV HO_121000) (R_base ho74) hb);replace HO_121001 := Am (Kd.V_elder' (zV HO_121001) (R_base ho74) hb);replace HO_129000 := Am (Kd.V_elder' (zV HO_129000) (R_base ho74) hb);replace HO_129001 := Am (Kd.V_elder' (zV HO_129001) (R_base ho74) hb);replace HO_137000 := Am (Kd.V_elder' (zV HO_137000) (R_base ho74) hb);replace HO_137001 := Am (Kd.V_elder' (zV HO_137001) (R_base ho74) hb);replace HO147 := Am (R_below (zR HO147) hb);have HO141 := Am (R_lower ho74 (below_size (zB HB)));replace BK120 := Am (zU BK120 hb);replace BK128 := Am (zU BK128 hb);replace BK136 := Am (zU BK136 hb);replace HB := Am (below_step (zB HB) hb);clear hb ho74;obtain ⟨Ao75, co75, eo75⟩ := R_slice HO147.out
           (first | subst eo75 | (injection eo75 with f1_ f2_ f3_; have f4_ := f1_.symm; have f5_ := f3_.symm; clear f1_ f2_ f3_; subst f4_; subst f5_))
           obtain ⟨Ao76, co76, eo76⟩ := R_slice HO141.out
           (first | subst eo76 | (injection eo76 with f1_ f2_ f3_; have f4_ := f1_.symm; have f5_ := f3_.symm; clear f1_ f2_ f3_; subst f4_; subst f5_))
           refine hK.out _ _ ⟨(blk_cell BK120.out 0).trans rfl, (blk_cell BK120.out 1).trans rfl⟩ (fun hHeld => ?_)
           clear hK K;refine norm_ (a' := ?_) ?_ ?_
           rotate_left
           ·show Act.put _ (some 97) _ = _
            simp only [Act.put, zS, i64_w, i32_w]
            rfl
           refine pure_ (i := 8) (N := some 102) (v := ?_) (a' := ?_) #[zt, zt, zt, zt, zt, zt, zt, zt, zt, zu, zu] rfl rfl (any_of HT_.out (by kernel_rfl)) (fun _ _ _ h => h) (Or.inl ⟨by rfl, ?_⟩) ?_ ?_
           rotate_left
           ·intro w'
            go_simp;with_reducible rfl
           rotate_left
           ·simp only [Act.put, zS, i64_w, i32_w]
            rfl
           exact norm_ zno (hJ3_4_7 (.slice Ao76 y139.length co76, v143, .slice Ao75 y145.length co75) _ ⟨hHeld, (zR HO141), (zR HO147), (zv HO_121000), (zv HO_121001), (zv HO_129000), (zv HO_129001), (zv HO_137000), (zv HO_137001), (zR HO_8), (zK BK120), (zK BK128), (zK BK136), (zB HB)⟩)
          ·skip
           refine box_step ?hg (N := 18) ?hd (cs := #[.slice none 0 0, .slice none 0 0]) (t := 32) ?hr ?_; (case hd => rfl); (case hg => rfl); (case hr => first | (go_simp; done) | (go_simp; rfl))
           intro gb148 hg w73 hbox hb;replace HO_8 := Am (R_below (zR HO_8) hb);replace HO_121000 := Am (Kd.V_below (Kd.V_elderB (zV HO_121000) gb148 (Nat.le_of_eq hg.symm)) hb);replace HO_121001 := Am (Kd.V_below (Kd.V_elderB (zV HO_121001) gb148 (Nat.le_of_eq hg.symm)) hb);replace HO_129000 := Am (Kd.V_below (Kd.V_elderB (zV HO_129000) gb148 (Nat.le_of_eq hg.symm)) hb);replace HO_129001 := Am (Kd.V_below (Kd.V_elderB (zV HO_129001) gb148 (Nat.le_of_eq hg.symm)) hb);replace HO_137000 := Am (Kd.V_below (Kd.V_elderB (zV HO_137000) gb148 (Nat.le_of_eq hg.symm)) hb);replace HO_137001 := Am (Kd.V_below (Kd.V_elderB (zV HO_137001) gb148 (Nat.le_of_eq hg.symm)) hb);replace HO147 := Am (R_below (zR HO147) hb);have BK148 := Am (hbox);have GW148 := Am (zO (w := w) HB hg);have GE148 := Am (zO (w := w) HB hg);replace HB := Am (below_step (zB HB) hb);have NB120_148 := Am ((by rw [hg]; exact Nat.ne_of_lt (zL BK120) : gb120 ≠ gb148));have NB148_120 := Am ((by rw [hg]; exact Nat.ne_of_gt (zL BK120) : gb148 ≠ gb120));replace BK120 := Am (zU BK120 hb);have NB128_148 := Am ((by rw [hg]; exact Nat.ne_of_lt (zL BK128) : gb128 ≠ gb148));have NB148_128 := Am ((by rw [hg]; exact Nat.ne_of_gt (zL BK128) : gb148 ≠ gb128));replace BK128 := Am (zU BK128 hb);have NB136_148 := Am ((by rw [hg]; exact Nat.ne_of_lt (zL BK136) : gb136 ≠ gb148));have NB148_136 := Am ((by rw [hg]; exact Nat.ne_of_gt (zL BK136) : gb148 ≠ gb136));replace BK136 := Am (zU BK136 hb);clear hb hbox hg;refine hK.out _ _ ⟨(blk_cell BK120.out 0).trans rfl, (blk_cell BK120.out 1).trans rfl⟩ (fun hHeld => ?_)
           clear hK K;refine norm_ (a' := ?_) ?_ ?_
           rotate_left
           ·show Act.put _ (some 18) _ = _
            simp only [Act.put, zS, i64_w, i32_w]
            rfl
           exact norm_ zno (hJ4_7_9 (v143, v146, gb148) _ ⟨hHeld, (zR HO147), (zv HO_121000), (zv HO_121001), (zv HO_129000), (zv HO_129001), (zv HO_137000), (zv HO_137001), (zR HO_8), (zK BK120), (zK BK128), (zK BK136), (zK BK148), GW148.out, GE148.out, NB120_148.out, NB148_120.out, NB128_148.out, NB148_128.out, NB136_148.out, NB148_136.out, (zB HB)⟩)
        ·skip
         rintro ⟨v140, gb148⟩ w72 ⟨hS_, h0_, h1_, h2_, h3_, h4_, h5_, h6_, h7_, h8_, h9_, h10_, h11_, h12_, h13_, h14_, h15_, h16_, h17_, h18_, h19_, h20_⟩
         (try dsimp only at h0_ h1_ h2_ h3_ h4_ h5_ h6_ h7_ h8_ h9_ h10_ h11_ h12_ h13_ h14_ h15_ h16_ h17_ h18_ h19_ h20_);clear HO_8 HO_121000 HO_121001 HO_129000 HO_129001 HO_137000 HO_137001 BK120 BK128 BK136 HB;have HO141 := Am h0_;have HO_121000 := Am h1_;have HO_121001 := Am h2_;have HO_129000 := Am h3_;have HO_129001 := Am h4_;have HO_137000 := Am h5_;have HO_137001 := Am h6_;have HO_8 := Am h7_;have BK120 := Am h8_;have BK128 := Am h9_;have BK136 := Am h10_;have BK148 := Am h11_;have GW148 := Am h12_;have GE148 := Am h13_;have NB120_148 := Am h14_;have NB148_120 := Am h15_;have NB128_148 := Am h16_;have NB148_128 := Am h17_;have NB136_148 := Am h18_;have NB148_136 := Am h19_;have HB := Am h20_;clear h0_ h1_ h2_ h3_ h4_ h5_ h6_ h7_ h8_ h9_ h10_ h11_ h12_ h13_ h14_ h15_ h16_ h17_ h18_ h19_ h20_;have hHeld := hS_
         refine norm_ (a' := ?_) ?_ ?_
         rotate_left
         ·simp only [putAll, Act.put, List.setIfInBounds_toArray, List.set_cons_zero, List.set_cons_succ]
          rfl
         refine one_ (i := 4) (N := some 98) #[zt, zt, zt, zt, zt, zt, zt, zu, zu, zt, zu] rfl rfl (one_of HT_.out (by kernel_rfl)) (by decide) (fun K hK => ?_)
         refine R_lit_step Kd.bool _ 4 ?hg (N := 98) ?hd (xs := ([] : List Bool)) (inner := []) (ok := fun _ => True) (okp := fun _ => True) ?hr ?hp (fun _ hk => hk) trivial (Below.refl _ _) (Nat.le_refl _) (by simp) ?_; (case hd => rfl); (case hg => rfl); (case hr => first | (go_simp; done) | (go_simp; rfl)); (case hp => exact (Reps.none _ _))
         intro v143 w73 ho74 hb hg_ hnew_;clear hg_ hnew_;(first | rw [← Ny142.out] at ho74 | (simp only [Int.reduceToNat] at ho74; rw [← Ny142.out] at ho74))
         replace HO_8 := Am (R_below (zR HO_8) hb);replace HO_121000 := Am (Kd.V_elder' (zV HO_121000) (R_base ho74) hb);replace HO_121001 := Am (Kd.V_elder' (zV HO_121001) (R_base ho74) hb);replace HO_129000 := Am (Kd.V_elder' (zV HO_129000) (R_base ho74) hb);replace HO_129001 := Am (Kd.V_elder' (zV HO_129001) (R_base ho74) hb);replace HO_137000 := Am (Kd.V_elder' (zV HO_137000) (R_base ho74) hb);replace HO_137001 := Am (Kd.V_elder' (zV HO_137001) (R_base ho74) hb);replace HO141 := Am (R_below (zR HO141) hb);have HO144 := Am (R_lower ho74 (below_size (zB HB)));replace BK120 := Am (zU BK120 hb);replace BK128 := Am (zU BK128 hb);replace BK136 := Am (zU BK136 hb);replace BK148 := Am (zU BK148 hb);replace HB := Am (below_step (zB HB) hb);clear hb ho74;refine hK.out _ _ ⟨(blk_cell BK120.out 0).trans rfl, (blk_cell BK120.out 1).trans rfl⟩ (fun hHeld => ?_)
         clear hK K;refine norm_ (a' := ?_) ?_ ?_
         rotate_left
         ·show Act.put _ (some 98) _ = _
          simp only [Act.put, zS, i64_w, i32_w]
          rfl
         exact norm_ zno (hJ3_4_9 (v140, v143, gb148) _ ⟨hHeld, (zR HO141), (zR HO144), (zv HO_121000), (zv HO_121001), (zv HO_129000), (zv HO_129001), (zv HO_137000), (zv HO_137001), (zR HO_8), (zK BK120), (zK BK128), (zK BK136), (zK BK148), GW148.out, GE148.out, NB120_148.out, NB148_120.out, NB128_148.out, NB148_128.out, NB136_148.out, NB148_136.out, (zB HB)⟩)
       ·skip
        rintro ⟨v140, v143⟩ w73 ⟨hS_, h0_, h1_, h2_, h3_, h4_, h5_, h6_, h7_, h8_, h9_, h10_, h11_, h12_⟩
        (try dsimp only at h0_ h1_ h2_ h3_ h4_ h5_ h6_ h7_ h8_ h9_ h10_ h11_ h12_);clear HO_8 HO_121000 HO_121001 HO_129000 HO_129001 HO_137000 HO_137001 BK120 BK128 BK136 HB;have HO141 := Am h0_;have HO144 := Am h1_;have HO_121000 := Am h2_;have HO_121001 := Am h3_;have HO_129000 := Am h4_;have HO_129001 := Am h5_;have HO_137000 := Am h6_;have HO_137001 := Am h7_;have HO_8 := Am h8_;have BK120 := Am h9_;have BK128 := Am h10_;have BK136 := Am h11_;have HB := Am h12_;clear h0_ h1_ h2_ h3_ h4_ h5_ h6_ h7_ h8_ h9_ h10_ h11_ h12_;have hHeld := hS_
        refine norm_ (a' := ?_) ?_ ?_
        rotate_left
        ·simp only [putAll, Act.put, List.setIfInBounds_toArray, List.set_cons_zero, List.set_cons_succ]
         rfl
        refine two_ (i := 7) (j := 9) (Ni := some 101) (Nj := some 18) #[zt, zt, zt, zt, zt, zt, zt, zt, zu, zu, zu] #[zt, zt, zt, zt, zt, zt, zt, zu, zu, zt, zu] rfl rfl rfl rfl (two_of HT_.out (by kernel_rfl)) (by decide) (by decide) (fun K hK => ?_) (fun K hK => ?_)
        ·skip
         refine R_append_rows_step Kd.bool (w0 := w) w.heap.size (by rfl) (.tmp 98) (.tmp 100) 30 4 (.bool false) 1 rfl Tryd.underlying30 info4 rfl (by decide) (by omega) v143 y142 t116 _ _ _ (fun _ => True) (fun _ => False) rfl rfl ?aO ?aR (fun _ _ h => h) (fun _ h => h.elim) ?aF ?aB ?aS ?aL ?_
         (case aR => repeat (first | exact (Kd.V_reads' HO_121001.out).2.2 | (with_reducible refine C_alloc ?_ _) | (with_reducible refine C_drewN ?_ _) | (with_reducible refine C_drew ?_)))
         (case aB => exact (zB HB))
         (case aF => exact (fun _ _ => trivial))
         (case aO => exact (zR HO144))
         (case aS => exact (below_size (zB HB)))
         (case aL => have := LMc67.out; omega)
         intro v146 w74 ho hb hg hat;rw [← Ny145.out] at ho
         replace HO_8 := Am (R_over' (zR HO_8) (R_typed (zR HO144)) (by decide) hg);replace HO_121000 := Am (zva HO_121000 hg hat);replace HO_121001 := Am (zva HO_121001 hg hat);replace HO_129000 := Am (zva HO_129000 hg hat);replace HO_129001 := Am (zva HO_129001 hg hat);replace HO_137000 := Am (zva HO_137000 hg hat);replace HO_137001 := Am (zva HO_137001 hg hat);replace BK120 := Am (zW BK120 hg (R_ne HO144.out BK120.out (by decide)));replace BK128 := Am (zW BK128 hg (R_ne HO144.out BK128.out (by decide)));replace BK136 := Am (zW BK136 hg (R_ne HO144.out BK136.out (by decide)));replace HO141 := Am (R_over' (zR HO141) (R_typed (zR HO144)) (by decide) hg);replace HB := Am (hb);have HO147 := Am (ho);clear HO144 ho hb hg hat;obtain ⟨Ao75, co75, eo75⟩ := R_slice HO147.out
         (first | subst eo75 | (injection eo75 with f1_ f2_ f3_; have f4_ := f1_.symm; have f5_ := f3_.symm; clear f1_ f2_ f3_; subst f4_; subst f5_))
         obtain ⟨Ao76, co76, eo76⟩ := R_slice HO141.out
         (first | subst eo76 | (injection eo76 with f1_ f2_ f3_; have f4_ := f1_.symm; have f5_ := f3_.symm; clear f1_ f2_ f3_; subst f4_; subst f5_))
         refine hK.out _ _ ⟨(blk_cell BK120.out 0).trans rfl, (blk_cell BK120.out 1).trans rfl⟩ (fun hHeld => ?_)
         clear hK K;refine norm_ (a' := ?_) ?_ ?_
         rotate_left
         ·show Act.put _ (some 101) _ = _
          simp only [Act.put, zS, i64_w, i32_w]
          rfl
         refine pure_ (i := 8) (N := some 102) (v := ?_) (a' := ?_) #[zt, zt, zt, zt, zt, zt, zt, zt, zt, zu, zu] rfl rfl (any_of HT_.out (by kernel_rfl)) (fun _ _ _ h => h) (Or.inl ⟨by rfl, ?_⟩) ?_ ?_
         rotate_left
         ·intro w'
          go_simp;with_reducible rfl
         rotate_left
         ·simp only [Act.put, zS, i64_w, i32_w]
          rfl
         exact norm_ zno (hJ3_4_7 (.slice Ao76 y139.length co76, v143, .slice Ao75 y145.length co75) _ ⟨hHeld, (zR HO141), (zR HO147), (zv HO_121000), (zv HO_121001), (zv HO_129000), (zv HO_129001), (zv HO_137000), (zv HO_137001), (zR HO_8), (zK BK120), (zK BK128), (zK BK136), (zB HB)⟩)
        ·skip
         refine box_step ?hg (N := 18) ?hd (cs := #[.slice none 0 0, .slice none 0 0]) (t := 32) ?hr ?_; (case hd => rfl); (case hg => rfl); (case hr => first | (go_simp; done) | (go_simp; rfl))
         intro gb148 hg w74 hbox hb;replace HO_8 := Am (R_below (zR HO_8) hb);replace HO_121000 := Am (Kd.V_below (Kd.V_elderB (zV HO_121000) gb148 (Nat.le_of_eq hg.symm)) hb);replace HO_121001 := Am (Kd.V_below (Kd.V_elderB (zV HO_121001) gb148 (Nat.le_of_eq hg.symm)) hb);replace HO_129000 := Am (Kd.V_below (Kd.V_elderB (zV HO_129000) gb148 (Nat.le_of_eq hg.symm)) hb);replace HO_129001 := Am (Kd.V_below (Kd.V_elderB (zV HO_129001) gb148 (Nat.le_of_eq hg.symm)) hb);replace HO_137000 := Am (Kd.V_below (Kd.V_elderB (zV HO_137000) gb148 (Nat.le_of_eq hg.symm)) hb);replace HO_137001 := Am (Kd.V_below (Kd.V_elderB (zV HO_137001) gb148 (Nat.le_of_eq hg.symm)) hb);replace HO141 := Am (R_below (zR HO141) hb);replace HO144 := Am (R_below (zR HO144) hb);have BK148 := Am (hbox);have GW148 := Am (zO (w := w) HB hg);have GE148 := Am (zO (w := w) HB hg);replace HB := Am (below_step (zB HB) hb);have NB120_148 := Am ((by rw [hg]; exact Nat.ne_of_lt (zL BK120) : gb120 ≠ gb148));have NB148_120 := Am ((by rw [hg]; exact Nat.ne_of_gt (zL BK120) : gb148 ≠ gb120));replace BK120 := Am (zU BK120 hb);have NB128_148 := Am ((by rw [hg]; exact Nat.ne_of_lt (zL BK128) : gb128 ≠ gb148));have NB148_128 := Am ((by rw [hg]; exact Nat.ne_of_gt (zL BK128) : gb148 ≠ gb128));replace BK128 := Am (zU BK128 hb);have NB136_148 := Am ((by rw [hg]; exact Nat.ne_of_lt (zL BK136) : gb136 ≠ gb148));have NB148_136 := Am ((by rw [hg]; exact Nat.ne_of_gt (zL BK136) : gb148 ≠ gb136));replace BK136 := Am (zU BK136 hb);clear hb hbox hg;refine hK.out _ _ ⟨(blk_cell BK120.out 0).trans rfl, (blk_cell BK120.out 1).trans rfl⟩ (fun hHeld => ?_)
         clear hK K;refine norm_ (a' := ?_) ?_ ?_
         rotate_left
         ·show Act.put _ (some 18) _ = _
          simp only [Act.put, zS, i64_w, i32_w]
          rfl
         exact norm_ zno (hJ3_4_9 (v140, v143, gb148) _ ⟨hHeld, (zR HO141), (zR HO144), (zv HO_121000), (zv HO_121001), (zv HO_129000), (zv HO_129001), (zv HO_137000), (zv HO_137001), (zR HO_8), (zK BK120), (zK BK128), (zK BK136), (zK BK148), GW148.out, GE148.out, NB120_148.out, NB148_120.out, NB128_148.out, NB148_128.out, NB136_148.out, NB148_136.out, (zB HB)⟩)
      ·skip
       rintro ⟨v143, v146, gb148⟩ w73 ⟨hS_, h0_, h1_, h2_, h3_, h4_, h5_, h6_, h7_, h8_, h9_, h10_, h11_, h12_, h13_, h14_, h15_, h16_, h17_, h18_, h19_, h20_⟩
       (try dsimp only at h0_ h1_ h2_ h3_ h4_ h5_ h6_ h7_ h8_ h9_ h10_ h11_ h12_ h13_ h14_ h15_ h16_ h17_ h18_ h19_ h20_);clear HO_8 HO_121000 HO_121001 HO_129000 HO_129001 HO_137000 HO_137001 BK120 BK128 BK136 HB;have HO147 := Am h0_;have HO_121000 := Am h1_;have HO_121001 := Am h2_;have HO_129000 := Am h3_;have HO_129001 := Am h4_;have HO_137000 := Am h5_;have HO_137001 := Am h6_;have HO_8 := Am h7_;have BK120 := Am h8_;have BK128 := Am h9_;have BK136 := Am h10_;have BK148 := Am h11_;have GW148 := Am h12_;have GE148 := Am h13_;have NB120_148 := Am h14_;have NB148_120 := Am h15_;have NB128_148 := Am h16_;have NB148_128 := Am h17_;have NB136_148 := Am h18_;have NB148_136 := Am h19_;have HB := Am h20_;clear h0_ h1_ h2_ h3_ h4_ h5_ h6_ h7_ h8_ h9_ h10_ h11_ h12_ h13_ h14_ h15_ h16_ h17_ h18_ h19_ h20_;have hHeld := hS_
       refine norm_ (a' := ?_) ?_ ?_
       rotate_left
       ·simp only [putAll, Act.put, List.setIfInBounds_toArray, List.set_cons_zero, List.set_cons_succ]
        rfl
       refine one_ (i := 3) (N := some 97) #[zt, zt, zt, zt, zt, zt, zt, zt, zu, zt, zu] rfl rfl (one_of HT_.out (by kernel_rfl)) (by decide) (fun K hK => ?_)
       refine R_make_step Kd.string _ 9 (by rfl) (N := 97) rfl 29 _ _ rfl (t113.length : Int) rfl rfl Tryd.underlying29 (.string ⟨#[]⟩) 16 info9 rfl (by decide) (by omega) (⟨#[]⟩ : ByteArray) (ok := fun _ => True) (okp := fun _ => True) rfl (fun _ hk => hk) trivial (of_decide_eq_true (by assumption)) (Nat.le_trans (Nat.mul_le_mul_right _ (of_decide_eq_true (by assumption) : (t113.length : Int).toNat ≤ 17592186044416)) (by omega)) (Below.refl _ _) (Nat.le_refl _) ?_
       intro v140 w74 ho75 hb hg_ hnew_;clear hg_ hnew_;(first | rw [← Ny139.out] at ho75 | (simp only [Int.reduceToNat] at ho75; rw [← Ny139.out] at ho75))
       replace HO_8 := Am (R_below (zR HO_8) hb);replace HO_121000 := Am (Kd.V_elder' (zV HO_121000) (R_base ho75) hb);replace HO_121001 := Am (Kd.V_elder' (zV HO_121001) (R_base ho75) hb);replace HO_129000 := Am (Kd.V_elder' (zV HO_129000) (R_base ho75) hb);replace HO_129001 := Am (Kd.V_elder' (zV HO_129001) (R_base ho75) hb);replace HO_137000 := Am (Kd.V_elder' (zV HO_137000) (R_base ho75) hb);replace HO_137001 := Am (Kd.V_elder' (zV HO_137001) (R_base ho75) hb);replace HO147 := Am (R_below (zR HO147) hb);have HO141 := Am (R_lower ho75 (below_size (zB HB)));replace BK120 := Am (zU BK120 hb);replace BK128 := Am (zU BK128 hb);replace BK136 := Am (zU BK136 hb);replace BK148 := Am (zU BK148 hb);replace HB := Am (below_step (zB HB) hb);clear hb ho75;obtain ⟨Ao76, co76, eo76⟩ := R_slice HO147.out
       (first | subst eo76 | (injection eo76 with f1_ f2_ f3_; have f4_ := f1_.symm; have f5_ := f3_.symm; clear f1_ f2_ f3_; subst f4_; subst f5_))
       obtain ⟨Ao77, co77, eo77⟩ := R_slice HO141.out
       (first | subst eo77 | (injection eo77 with f1_ f2_ f3_; have f4_ := f1_.symm; have f5_ := f3_.symm; clear f1_ f2_ f3_; subst f4_; subst f5_))
       refine hK.out _ _ ⟨(blk_cell BK120.out 0).trans rfl, (blk_cell BK120.out 1).trans rfl⟩ (fun hHeld => ?_)
       clear hK K;refine norm_ (a' := ?_) ?_ ?_
       rotate_left
       ·show Act.put _ (some 97) _ = _
        simp only [Act.put, zS, i64_w, i32_w]
        rfl
       refine pure_ (i := 8) (N := some 102) (v := ?_) (a' := ?_) #[zt, zt, zt, zt, zt, zt, zt, zt, zt, zt, zu] rfl rfl (any_of HT_.out (by kernel_rfl)) (fun _ _ _ h => h) (Or.inl ⟨by rfl, ?_⟩) ?_ ?_
       rotate_left
       ·intro w'
        go_simp;with_reducible rfl
       rotate_left
       ·simp only [Act.put, zS, i64_w, i32_w]
        rfl
       exact norm_ zno (hJ3_4_7_9 (.slice Ao77 y139.length co77, v143, .slice Ao76 y145.length co76, gb148) _ ⟨hHeld, (zR HO141), (zR HO147), (zv HO_121000), (zv HO_121001), (zv HO_129000), (zv HO_129001), (zv HO_137000), (zv HO_137001), (zR HO_8), (zK BK120), (zK BK128), (zK BK136), (zK BK148), GW148.out, GE148.out, NB120_148.out, NB148_120.out, NB128_148.out, NB148_128.out, NB136_148.out, NB148_136.out, (zB HB)⟩)
     ·skip
      rintro ⟨v140, v143, gb148⟩ w74 ⟨hS_, h0_, h1_, h2_, h3_, h4_, h5_, h6_, h7_, h8_, h9_, h10_, h11_, h12_, h13_, h14_, h15_, h16_, h17_, h18_, h19_, h20_, h21_⟩
      (try dsimp only at h0_ h1_ h2_ h3_ h4_ h5_ h6_ h7_ h8_ h9_ h10_ h11_ h12_ h13_ h14_ h15_ h16_ h17_ h18_ h19_ h20_ h21_);clear HO_8 HO_121000 HO_121001 HO_129000 HO_129001 HO_137000 HO_137001 BK120 BK128 BK136 HB;have HO141 := Am h0_;have HO144 := Am h1_;have HO_121000 := Am h2_;have HO_121001 := Am h3_;have HO_129000 := Am h4_;have HO_129001 := Am h5_;have HO_137000 := Am h6_;have HO_137001 := Am h7_;have HO_8 := Am h8_;have BK120 := Am h9_;have BK128 := Am h10_;have BK136 := Am h11_;have BK148 := Am h12_;have GW148 := Am h13_;have GE148 := Am h14_;have NB120_148 := Am h15_;have NB148_120 := Am h16_;have NB128_148 := Am h17_;have NB148_128 := Am h18_;have NB136_148 := Am h19_;have NB148_136 := Am h20_;have HB := Am h21_;clear h0_ h1_ h2_ h3_ h4_ h5_ h6_ h7_ h8_ h9_ h10_ h11_ h12_ h13_ h14_ h15_ h16_ h17_ h18_ h19_ h20_ h21_;have hHeld := hS_
      refine norm_ (a' := ?_) ?_ ?_
      rotate_left
      ·simp only [putAll, Act.put, List.setIfInBounds_toArray, List.set_cons_zero, List.set_cons_succ]
       rfl
      refine one_ (i := 7) (N := some 101) #[zt, zt, zt, zt, zt, zt, zt, zt, zu, zt, zu] rfl rfl (one_of HT_.out (by kernel_rfl)) (by decide) (fun K hK => ?_)
      refine R_append_rows_step Kd.bool (w0 := w) w.heap.size (by rfl) (.tmp 98) (.tmp 100) 30 4 (.bool false) 1 rfl Tryd.underlying30 info4 rfl (by decide) (by omega) v143 y142 t116 _ _ _ (fun _ => True) (fun _ => False) rfl rfl ?aO ?aR (fun _ _ h => h) (fun _ h => h.elim) ?aF ?aB ?aS ?aL ?_
      (case aR => repeat (first | exact (Kd.V_reads' HO_121001.out).2.2 | (with_reducible refine C_alloc ?_ _) | (with_reducible refine C_drewN ?_ _) | (with_reducible refine C_drew ?_)))
      (case aB => exact (zB HB))
      (case aF => exact (fun _ _ => trivial))
      (case aO => exact (zR HO144))
      (case aS => exact (below_size (zB HB)))
      (case aL => have := LMc67.out; omega)
      intro v146 w75 ho hb hg hat;rw [← Ny145.out] at ho
      replace HO_8 := Am (R_over' (zR HO_8) (R_typed (zR HO144)) (by decide) hg);replace HO_121000 := Am (zva HO_121000 hg hat);replace HO_121001 := Am (zva HO_121001 hg hat);replace HO_129000 := Am (zva HO_129000 hg hat);replace HO_129001 := Am (zva HO_129001 hg hat);replace HO_137000 := Am (zva HO_137000 hg hat);replace HO_137001 := Am (zva HO_137001 hg hat);replace BK120 := Am (zW BK120 hg (R_ne HO144.out BK120.out (by decide)));replace BK128 := Am (zW BK128 hg (R_ne HO144.out BK128.out (by decide)));replace BK136 := Am (zW BK136 hg (R_ne HO144.out BK136.out (by decide)));replace HO141 := Am (R_over' (zR HO141) (R_typed (zR HO144)) (by decide) hg);replace BK148 := Am (zW BK148 hg (R_ne HO144.out BK148.out (by decide)));replace HB := Am (hb);have HO147 := Am (ho);clear HO144 ho hb hg hat;obtain ⟨Ao76, co76, eo76⟩ := R_slice HO147.out
      (first | subst eo76 | (injection eo76 with f1_ f2_ f3_; have f4_ := f1_.symm; have f5_ := f3_.symm; clear f1_ f2_ f3_; subst f4_; subst f5_))
      obtain ⟨Ao77, co77, eo77⟩ := R_slice HO141.out
      (first | subst eo77 | (injection eo77 with f1_ f2_ f3_; have f4_ := f1_.symm; have f5_ := f3_.symm; clear f1_ f2_ f3_; subst f4_; subst f5_))
      refine hK.out _ _ ⟨(blk_cell BK120.out 0).trans rfl, (blk_cell BK120.out 1).trans rfl⟩ (fun hHeld => ?_)
      clear hK K;refine norm_ (a' := ?_) ?_ ?_
      rotate_left
      ·show Act.put _ (some 101) _ = _
       simp only [Act.put, zS, i64_w, i32_w]
       rfl
      refine pure_ (i := 8) (N := some 102) (v := ?_) (a' := ?_) #[zt, zt, zt, zt, zt, zt, zt, zt, zt, zt, zu] rfl rfl (any_of HT_.out (by kernel_rfl)) (fun _ _ _ h => h) (Or.inl ⟨by rfl, ?_⟩) ?_ ?_
      rotate_left
      ·intro w'
       go_simp;with_reducible rfl
      rotate_left
      ·simp only [Act.put, zS, i64_w, i32_w]
       rfl
      exact norm_ zno (hJ3_4_7_9 (.slice Ao77 y139.length co77, v143, .slice Ao76 y145.length co76, gb148) _ ⟨hHeld, (zR HO141), (zR HO147), (zv HO_121000), (zv HO_121001), (zv HO_129000), (zv HO_129001), (zv HO_137000), (zv HO_137001), (zR HO_8), (zK BK120), (zK BK128), (zK BK136), (zK BK148), GW148.out, GE148.out, NB120_148.out, NB148_120.out, NB128_148.out, NB148_128.out, NB136_148.out, NB148_136.out, (zB HB)⟩)
    ·skip
     rintro ⟨v140, v143, v146⟩ w76 ⟨hS_, h0_, h1_, h2_, h3_, h4_, h5_, h6_, h7_, h8_, h9_, h10_, h11_, h12_⟩
     (try dsimp only at h0_ h1_ h2_ h3_ h4_ h5_ h6_ h7_ h8_ h9_ h10_ h11_ h12_);clear HO_8 HO_121000 HO_121001 HO_129000 HO_129001 HO_137000 HO_137001 BK120 BK128 BK136 HB;have HO141 := Am h0_;have HO147 := Am h1_;have HO_121000 := Am h2_;have HO_121001 := Am h3_;have HO_129000 := Am h4_;have HO_129001 := Am h5_;have HO_137000 := Am h6_;have HO_137001 := Am h7_;have HO_8 := Am h8_;have BK120 := Am h9_;have BK128 := Am h10_;have BK136 := Am h11_;have HB := Am h12_;clear h0_ h1_ h2_ h3_ h4_ h5_ h6_ h7_ h8_ h9_ h10_ h11_ h12_;have hHeld := hS_
     obtain ⟨Ao77, co77, eo77⟩ := R_slice HO147.out
     (first | subst eo77 | (injection eo77 with f1_ f2_ f3_; have f4_ := f1_.symm; have f5_ := f3_.symm; clear f1_ f2_ f3_; subst f4_; subst f5_))
     obtain ⟨Ao78, co78, eo78⟩ := R_slice HO141.out
     (first | subst eo78 | (injection eo78 with f1_ f2_ f3_; have f4_ := f1_.symm; have f5_ := f3_.symm; clear f1_ f2_ f3_; subst f4_; subst f5_))
     refine norm_ (a' := ?_) ?_ ?_
     rotate_left
     ·simp only [putAll, Act.put, List.setIfInBounds_toArray, List.set_cons_zero, List.set_cons_succ]
      rfl
     refine one_ (i := 9) (N := some 18) #[zt, zt, zt, zt, zt, zt, zt, zt, zt, zt, zu] rfl rfl (one_of HT_.out (by kernel_rfl)) (by decide) (fun K hK => ?_)
     refine box_step ?hg (N := 18) ?hd (cs := #[.slice none 0 0, .slice none 0 0]) (t := 32) ?hr ?_; (case hd => rfl); (case hg => rfl); (case hr => first | (go_simp; done) | (go_simp; rfl))
     intro gb148 hg w79 hbox hb;replace HO_8 := Am (R_below (zR HO_8) hb);replace HO_121000 := Am (Kd.V_below (Kd.V_elderB (zV HO_121000) gb148 (Nat.le_of_eq hg.symm)) hb);replace HO_121001 := Am (Kd.V_below (Kd.V_elderB (zV HO_121001) gb148 (Nat.le_of_eq hg.symm)) hb);replace HO_129000 := Am (Kd.V_below (Kd.V_elderB (zV HO_129000) gb148 (Nat.le_of_eq hg.symm)) hb);replace HO_129001 := Am (Kd.V_below (Kd.V_elderB (zV HO_129001) gb148 (Nat.le_of_eq hg.symm)) hb);replace HO_137000 := Am (Kd.V_below (Kd.V_elderB (zV HO_137000) gb148 (Nat.le_of_eq hg.symm)) hb);replace HO_137001 := Am (Kd.V_below (Kd.V_elderB (zV HO_137001) gb148 (Nat.le_of_eq hg.symm)) hb);replace HO141 := Am (R_below (zR HO141) hb);replace HO147 := Am (R_below (zR HO147) hb);have BK148 := Am (hbox);have GW148 := Am (zO (w := w) HB hg);have GE148 := Am (zO (w := w) HB hg);replace HB := Am (below_step (zB HB) hb);have NB120_148 := Am ((by rw [hg]; exact Nat.ne_of_lt (zL BK120) : gb120 ≠ gb148));have NB148_120 := Am ((by rw [hg]; exact Nat.ne_of_gt (zL BK120) : gb148 ≠ gb120));replace BK120 := Am (zU BK120 hb);have NB128_148 := Am ((by rw [hg]; exact Nat.ne_of_lt (zL BK128) : gb128 ≠ gb148));have NB148_128 := Am ((by rw [hg]; exact Nat.ne_of_gt (zL BK128) : gb148 ≠ gb128));replace BK128 := Am (zU BK128 hb);have NB136_148 := Am ((by rw [hg]; exact Nat.ne_of_lt (zL BK136) : gb136 ≠ gb148));have NB148_136 := Am ((by rw [hg]; exact Nat.ne_of_gt (zL BK136) : gb148 ≠ gb136));replace BK136 := Am (zU BK136 hb);clear hb hbox hg;refine hK.out _ _ ⟨(blk_cell BK120.out 0).trans rfl, (blk_cell BK120.out 1).trans rfl⟩ (fun hHeld => ?_)
     clear hK K;refine norm_ (a' := ?_) ?_ ?_
     rotate_left
     ·show Act.put _ (some 18) _ = _
      simp only [Act.put, zS, i64_w, i32_w]
      rfl
     exact norm_ zno (hJ3_4_7_9 (.slice Ao78 y139.length co78, v143, .slice Ao77 y145.length co77, gb148) _ ⟨hHeld, (zR HO141), (zR HO147), (zv HO_121000), (zv HO_121001), (zv HO_129000), (zv HO_129001), (zv HO_137000), (zv HO_137001), (zR HO_8), (zK BK120), (zK BK128), (zK BK136), (zK BK148), GW148.out, GE148.out, NB120_148.out, NB148_120.out, NB128_148.out, NB148_128.out, NB136_148.out, NB148_136.out, (zB HB)⟩)
   rintro ⟨v140, v143, v146, gb148⟩ w77 ⟨hS_, h0_, h1_, h2_, h3_, h4_, h5_, h6_, h7_, h8_, h9_, h10_, h11_, h12_, h13_, h14_, h15_, h16_, h17_, h18_, h19_, h20_, h21_⟩
   (try dsimp only at h0_ h1_ h2_ h3_ h4_ h5_ h6_ h7_ h8_ h9_ h10_ h11_ h12_ h13_ h14_ h15_ h16_ h17_ h18_ h19_ h20_ h21_);clear HO_8 HO_121000 HO_121001 HO_129000 HO_129001 HO_137000 HO_137001 BK120 BK128 BK136 HB;have HO141 := Am h0_;have HO147 := Am h1_;have HO_121000 := Am h2_;have HO_121001 := Am h3_;have HO_129000 := Am h4_;have HO_129001 := Am h5_;have HO_137000 := Am h6_;have HO_137001 := Am h7_;have HO_8 := Am h8_;have BK120 := Am h9_;have BK128 := Am h10_;have BK136 := Am h11_;have BK148 := Am h12_;have GW148 := Am h13_;have GE148 := Am h14_;have NB120_148 := Am h15_;have NB148_120 := Am h16_;have NB128_148 := Am h17_;have NB148_128 := Am h18_;have NB136_148 := Am h19_;have NB148_136 := Am h20_;have HB := Am h21_;clear h0_ h1_ h2_ h3_ h4_ h5_ h6_ h7_ h8_ h9_ h10_ h11_ h12_ h13_ h14_ h15_ h16_ h17_ h18_ h19_ h20_ h21_;have hHeld := hS_
   obtain ⟨Ao78, co78, eo78⟩ := R_slice HO147.out
   (first | subst eo78 | (injection eo78 with f1_ f2_ f3_; have f4_ := f1_.symm; have f5_ := f3_.symm; clear f1_ f2_ f3_; subst f4_; subst f5_))
   obtain ⟨Ao79, co79, eo79⟩ := R_slice HO141.out
   (first | subst eo79 | (injection eo79 with f1_ f2_ f3_; have f4_ := f1_.symm; have f5_ := f3_.symm; clear f1_ f2_ f3_; subst f4_; subst f5_))
   refine norm_ (a' := ?_) ?_ ?_
   rotate_left
   ·simp only [putAll, Act.put, List.setIfInBounds_toArray, List.set_cons_zero, List.set_cons_succ]
    rfl
   refine one_ (i := 10) (N := none) #[zt, zt, zt, zt, zt, zt, zt, zt, zt, zt, zt] rfl rfl (one_of HT_.out (by kernel_rfl)) (by decide) (fun K hK => ?_)
   have hs80 : w77.cell? ⟨gb148, 0, none⟩ = some (.slice none 0 0) := (blk_cell BK148.out 0).trans rfl
   have hfs80 := blk_frozen BK148.out 0;have hns80_0 := NB120_148.out;have hns80_1 := NB128_148.out;have hns80_2 := NB136_148.out;have hms80_0 := NB148_120.out;have hms80_1 := NB148_128.out;have hms80_2 := NB148_136.out;have hs81 : w77.cell? ⟨gb148, 1, none⟩ = some (.slice none 0 0) := (blk_cell BK148.out 1).trans rfl
   have hfs81 := blk_frozen BK148.out 1;have hns81_0 := NB120_148.out;have hns81_1 := NB128_148.out;have hns81_2 := NB136_148.out;have hms81_0 := NB148_120.out;have hms81_1 := NB148_128.out;have hms81_2 := NB148_136.out;refine skip_ (w1 := ?_) (by rfl) rfl ?_ ?_
   rotate_left
   ·go_simp;rfl
   refine hK.out _ _ ⟨((cell_far (p := ⟨gb148, _, none⟩) NB120_148.out _).trans (((cell_far (p := ⟨gb148, _, none⟩) NB120_148.out _).trans (hHeld.1)))), ((cell_far (p := ⟨gb148, _, none⟩) NB120_148.out _).trans (((cell_far (p := ⟨gb148, _, none⟩) NB120_148.out _).trans (hHeld.2))))⟩ (fun hHeld => ?_)
   clear hK K;refine done_ (done_of HT_.out (by kernel_rfl)) ?_
   try go_wp2
   go_loopg [19, 20] kj11 (fun kq v19 v20 w' => ∃ (x19_2 : Int) (x20_2 : Int) (x121000_2 : List ByteArray) (x121001_2 : List Bool) (x129000_2 : List ByteArray) (x129001_2 : List Bool) (x137000_2 : List ByteArray) (x137001_2 : List Bool) (x149000_2 : List ByteArray) (x149001_2 : List Bool) (u121000 : Value) (u121001 : Value) (u129000 : Value) (u129001 : Value) (u137000 : Value) (u137001 : Value) (u149000 : Value) (u149001 : Value), v19 = .int .i64 x19_2 ∧ v20 = .int .i64 x20_2 ∧ (fun (ok_ : Nat → Prop) => Aside0 (epitomelaw09_ComposeGaps.l0 kq t102 x19_2 x20_2 x121000_2 x121001_2 x129000_2 x129001_2 x137000_2 x137001_2 x149000_2 x149001_2 = some r) ∧ Aside0 (kq ≤ kj11) ∧ Aside0 (Kd.R k55 55 w' w.heap.size (fun _ => True) (.slice Ao15 t102.length co15) t102) ∧ Aside0 (Kd.V Kd.string 9 w' w.heap.size ok_ u121000 x121000_2) ∧ Aside0 (Kd.V Kd.bool 4 w' w.heap.size ok_ u121001 x121001_2) ∧ Aside0 (Kd.V Kd.string 9 w' w.heap.size ok_ u129000 x129000_2) ∧ Aside0 (Kd.V Kd.bool 4 w' w.heap.size ok_ u129001 x129001_2) ∧ Aside0 (Kd.V Kd.string 9 w' w.heap.size ok_ u137000 x137000_2) ∧ Aside0 (Kd.V Kd.bool 4 w' w.heap.size ok_ u137001 x137001_2) ∧ Aside0 (Kd.R Kd.string 9 w' w.heap.size (fun _ => True) u149000 x149000_2) ∧ Aside0 (Kd.R Kd.bool 4 w' w.heap.size (fun _ => True) u149001 x149001_2) ∧ Aside0 (w'.heap[gb120]? = some (.cells #[u121000, u121001] 32 (0, 0))) ∧ Aside0 (w'.heap[gb128]? = some (.cells #[u129000, u129001] 32 (0, 0))) ∧ Aside0 (w'.heap[gb136]? = some (.cells #[u137000, u137001] 32 (0, 0))) ∧ Aside0 (w'.heap[gb148]? = some (.cells #[u149000, u149001] 32 (0, 0))) ∧ Aside0 (Below w.heap.size w w')) (fun k_ => some k_ ≠ ((.slice Ao15 t102.length co15) : Value).ownBlock ∧ some k_ ≠ (u149000 : Value).ownBlock ∧ some k_ ≠ (u149001 : Value).ownBlock ∧ k_ ≠ gb120 ∧ k_ ≠ gb128 ∧ k_ ≠ gb136 ∧ k_ ≠ gb148))
   case atStart => exact ⟨(0), (0), (t113), (t116), (t121), (t124), (t129), (t132), (y139), (y145), (.slice Ao22 t113.length co22), (.slice Ao24 t116.length co24), (.slice Ao27 t121.length co27), (.slice Ao30 t124.length co30), (.slice Ao34 t129.length co34), (.slice Ao38 t132.length co38), (.slice Ao79 y139.length co79), (.slice Ao78 y145.length co78), zG, zG, H', ⟨Nat.le_refl _⟩, ⟨by (with_reducible repeat (first | apply zA.a | apply zA.n | apply zA.d)); exact R_mono (R_far (p := ⟨gb148, 1, none⟩) (R_far (p := ⟨gb148, 0, none⟩) (R_types HO_8.out BK148.out (by decide)) (fun _ hk => hk.2) (.slice Ao79 y139.length co79)) (fun _ hk => hk.2) (.slice Ao78 y145.length co78)) (fun _ hk => trivial)⟩, ⟨zfw HO_121000 gb148 (.slice Ao79 y139.length co79) (.slice Ao78 y145.length co78)⟩, ⟨zfw HO_121001 gb148 (.slice Ao79 y139.length co79) (.slice Ao78 y145.length co78)⟩, ⟨zfw HO_129000 gb148 (.slice Ao79 y139.length co79) (.slice Ao78 y145.length co78)⟩, ⟨zfw HO_129001 gb148 (.slice Ao79 y139.length co79) (.slice Ao78 y145.length co78)⟩, ⟨zfw HO_137000 gb148 (.slice Ao79 y139.length co79) (.slice Ao78 y145.length co78)⟩, ⟨zfw HO_137001 gb148 (.slice Ao79 y139.length co79) (.slice Ao78 y145.length co78)⟩, ⟨by (with_reducible repeat (first | apply zA.a | apply zA.n | apply zA.d)); exact R_mono (R_far (p := ⟨gb148, 1, none⟩) (R_far (p := ⟨gb148, 0, none⟩) (R_types HO141.out BK148.out (by decide)) (fun _ hk => hk.2) (.slice Ao79 y139.length co79)) (fun _ hk => hk.2) (.slice Ao78 y145.length co78)) (fun _ hk => trivial)⟩, ⟨by (with_reducible repeat (first | apply zA.a | apply zA.n | apply zA.d)); exact R_mono (R_far (p := ⟨gb148, 1, none⟩) (R_far (p := ⟨gb148, 0, none⟩) (R_types HO147.out BK148.out (by decide)) (fun _ hk => hk.2) (.slice Ao79 y139.length co79)) (fun _ hk => hk.2) (.slice Ao78 y145.length co78)) (fun _ hk => trivial)⟩, ⟨(zK BK120)⟩, ⟨(zK BK128)⟩, ⟨(zK BK136)⟩, ⟨(zP BK148)⟩, ⟨(zB HB)⟩⟩
   case round =>
   as_aux_lemma =>
    clear H';(try clear p2);(try clear c6);(try clear c67);obtain ⟨x19_2, x20_2, x121000_2, x121001_2, x129000_2, x129001_2, x137000_2, x137001_2, x149000_2, x149001_2, u121000, u121001, u129000, u129001, u137000, u137001, u149000, u149001, rfl, rfl, HA, HK2, HO_8, HO_121000, HO_121001, HO_129000, HO_129001, HO_137000, HO_137001, HO_149000, HO_149001, BK120, BK128, BK136, BK148, HB⟩ := hrel
    cases gk with
    | zero => exact absurd HA.out (by simp [epitomelaw09_ComposeGaps.l0])
    | succ k2 =>
     have H := HA.out;clear HA;simp only [epitomelaw09_ComposeGaps.l0] at H
     by_cases c82 : x20_2 < (x121000_2.length : Int)
     rotate_left
     ·rw [if_neg c82] at H;have c82b0 : decide (x20_2 < (x121000_2.length : Int)) = false := decide_eq_false c82
      clear c82;replace H := Option.bind_eq_some_iff.mp H;obtain ⟨t149, A2370, H⟩ := H;replace H : (some t149) = some r := H
      have A237 := Am A2370;clear A2370;obtain rfl := Option.some.inj H;have hnb238 := NB120_128.out;have hnc238 := NB128_120.out;have hnb239 := NB120_136.out;have hnc239 := NB136_120.out;have hnb240 := NB120_148.out;have hnc240 := NB148_120.out;obtain ⟨hcz241_0, hcz241_1, hfz241_0, hfz241_1⟩ := zc2 BK120;obtain ⟨Ao242, co242, eo242⟩ := Kd.V_slice HO_121000.out
      subst eo242
      have hnb243 := NB136_128.out;have hnc243 := NB128_136.out;have hnb244 := NB136_148.out;have hnc244 := NB148_136.out;obtain ⟨hcz245_0, hcz245_1, hfz245_0, hfz245_1⟩ := zc2 BK136;have hnb246 := NB148_128.out;have hnc246 := NB128_148.out;obtain ⟨hcz247_0, hcz247_1, hfz247_0, hfz247_1⟩ := zc2 BK148;obtain ⟨Ao248, co248, eo248⟩ := Kd.V_slice HO_137000.out
      subst eo248
      obtain ⟨Ao249, co249, eo249⟩ := Kd.V_slice HO_137001.out
      subst eo249
      obtain ⟨Ao250, co250, eo250⟩ := R_slice HO_149000.out
      subst eo250
      obtain ⟨Ao251, co251, eo251⟩ := R_slice HO_149001.out
      subst eo251
      go_wp2_with (first | ((with_reducible refine gate_callee (f := 17) rfl ?_); refine goesL_ (some 253) rfl rfl Tryd.func17 (by kernel_rfl) rfl #[.agg #[.slice Ao248 x137000_2.length co248, .slice Ao249 x137001_2.length co249], .agg #[.slice Ao250 x149000_2.length co250, .slice Ao251 x149001_2.length co251]] rfl zE ?_; (with_reducible refine (epitomeref06_Same.calls k2 _ _ x137000_2 _ _ x137001_2 _ _ x149000_2 _ _ x149001_2 t149 _ ?side1 ?side2 ?side3 ?side4 ?side5 ?side6 ?side7 ?side8 A237.out).mono ?_); (case side1 => repeat (first | exact (Kd.V_reads' HO_137000.out).2.2 | (with_reducible refine C_alloc ?_ _) | (with_reducible refine C_drewN ?_ _) | (with_reducible refine C_drew ?_))); (case side2 => exact (Kd.V_reads' HO_137000.out).2.1); (case side3 => repeat (first | exact (Kd.V_reads' HO_137001.out).2.2 | (with_reducible refine C_alloc ?_ _) | (with_reducible refine C_drewN ?_ _) | (with_reducible refine C_drew ?_))); (case side4 => exact (Kd.V_reads' HO_137001.out).2.1); (case side5 => exact zI (R_reads' HO_149000.out).2.2); (case side6 => exact (R_reads' HO_149000.out).2.1); (case side7 => exact zI (R_reads' HO_149001.out).2.2); (case side8 => exact (R_reads' HO_149001.out).2.1); rintro e w252 ⟨rfl, hb⟩; refine ⟨_, rfl, ?_⟩; replace HO_8 := Am (R_below (zR HO_8) hb);replace HO_121000 := Am (Kd.V_below (zV HO_121000) hb);replace HO_121001 := Am (Kd.V_below (zV HO_121001) hb);replace HO_129000 := Am (Kd.V_below (zV HO_129000) hb);replace HO_129001 := Am (Kd.V_below (zV HO_129001) hb);replace HO_137000 := Am (Kd.V_below (zV HO_137000) hb);replace HO_137001 := Am (Kd.V_below (zV HO_137001) hb);replace HO_149000 := Am (R_below (zR HO_149000) hb);replace HO_149001 := Am (R_below (zR HO_149001) hb);replace BK120 := Am (zU BK120 hb);replace BK128 := Am (zU BK128 hb);replace BK136 := Am (zU BK136 hb);replace BK148 := Am (zU BK148 hb);replace HB := Am (below_step (zB HB) hb); (try clear hb)))
      go_ret
      exact ⟨zF, (zB HB)⟩
     rw [if_pos c82] at H;have c82b0 : decide (x20_2 < (x121000_2.length : Int)) = true := decide_eq_true c82
     clear c82;by_cases c83 : 0 ≤ x20_2
     rotate_left
     ·rw [if_neg c83] at H;exact absurd H (by simp)
     rw [if_pos c83] at H;have c83b0 : decide (0 ≤ x20_2) = true := decide_eq_true c83
     clear c83;replace H := Option.bind_eq_some_iff.mp H;obtain ⟨t151, A840, H⟩ := H;have A84 := Am A840;clear A840;have HC85 := Am H;clear H;have hnb86 := NB120_128.out;have hnc86 := NB128_120.out;have hnb87 := NB120_136.out;have hnc87 := NB136_120.out;have hnb88 := NB120_148.out;have hnc88 := NB148_120.out;obtain ⟨hcz89_0, hcz89_1, hfz89_0, hfz89_1⟩ := zc2 BK120;obtain ⟨Ao90, co90, eo90⟩ := Kd.V_slice HO_121000.out
     subst eo90
     have p150 : 0 ≤ (x20_2 : Int) := of_decide_eq_true (by assumption)
     have q150 : x20_2 < (x121000_2.length : Int) := of_decide_eq_true (by assumption)
     obtain ⟨ad150, e150, hx150_0⟩ := Kd.at_string (Kd.V_reads' HO_121000.out).2.2 x20_2 p150 q150
     cases e150
     replace p150 := eq_true p150;replace q150 := eq_true q150;go_upto_region 16 with (first | ((with_reducible refine gate_callee (f := 14) rfl ?_); refine goesL_ (some 115) rfl rfl Tryd.func14 (by kernel_rfl) rfl #[.string (rdOf ByteArray.empty x121000_2 x20_2)] rfl zE ?_; (with_reducible refine (points_Count.calls (rdOf ByteArray.empty x121000_2 x20_2) t151 _ ?side1 A84.out).mono ?_); (case side1 => exact zg HG HB); rintro e w91 ⟨rfl, hb⟩; refine ⟨_, rfl, ?_⟩; replace HO_8 := Am (R_below (zR HO_8) hb);replace HO_121000 := Am (Kd.V_below (zV HO_121000) hb);replace HO_121001 := Am (Kd.V_below (zV HO_121001) hb);replace HO_129000 := Am (Kd.V_below (zV HO_129000) hb);replace HO_129001 := Am (Kd.V_below (zV HO_129001) hb);replace HO_137000 := Am (Kd.V_below (zV HO_137000) hb);replace HO_137001 := Am (Kd.V_below (zV HO_137001) hb);replace HO_149000 := Am (R_below (zR HO_149000) hb);replace HO_149001 := Am (R_below (zR HO_149001) hb);replace BK120 := Am (zU BK120 hb);replace BK128 := Am (zU BK128 hb);replace BK136 := Am (zU BK136 hb);replace BK148 := Am (zU BK148 hb);replace HB := Am (below_step (zB HB) hb); (try clear hb)))
     (try simp only [Act.put, zS])
     go_cut [22] (fun v22 wc => ∃ (kq : Nat) (x22_84 : Bool), v22 = .bool x22_84 ∧ (fun (ok_ : Nat → Prop) => Aside0 (epitomelaw09_ComposeGaps.j2 kq t102 x19_2 x20_2 t151 x22_84 x121000_2 x121001_2 x129000_2 x129001_2 x137000_2 x137001_2 x149000_2 x149001_2 = some r) ∧ Aside0 (kq ≤ k2) ∧ Aside0 (Kd.R k55 55 wc w.heap.size (fun _ => True) (.slice Ao15 t102.length co15) t102) ∧ Aside0 (Kd.V Kd.string 9 wc w.heap.size ok_ (.slice (some ad150) x121000_2.length co90) x121000_2) ∧ Aside0 (Kd.V Kd.bool 4 wc w.heap.size ok_ u121001 x121001_2) ∧ Aside0 (Kd.V Kd.string 9 wc w.heap.size ok_ u129000 x129000_2) ∧ Aside0 (Kd.V Kd.bool 4 wc w.heap.size ok_ u129001 x129001_2) ∧ Aside0 (Kd.V Kd.string 9 wc w.heap.size ok_ u137000 x137000_2) ∧ Aside0 (Kd.V Kd.bool 4 wc w.heap.size ok_ u137001 x137001_2) ∧ Aside0 (Kd.R Kd.string 9 wc w.heap.size (fun _ => True) u149000 x149000_2) ∧ Aside0 (Kd.R Kd.bool 4 wc w.heap.size (fun _ => True) u149001 x149001_2) ∧ Aside0 (wc.heap[gb120]? = some (.cells #[(.slice (some ad150) x121000_2.length co90), u121001] 32 (0, 0))) ∧ Aside0 (wc.heap[gb128]? = some (.cells #[u129000, u129001] 32 (0, 0))) ∧ Aside0 (wc.heap[gb136]? = some (.cells #[u137000, u137001] 32 (0, 0))) ∧ Aside0 (wc.heap[gb148]? = some (.cells #[u149000, u149001] 32 (0, 0))) ∧ Aside0 (Below w.heap.size w wc)) (fun k_ => some k_ ≠ ((.slice Ao15 t102.length co15) : Value).ownBlock ∧ some k_ ≠ (u149000 : Value).ownBlock ∧ some k_ ≠ (u149001 : Value).ownBlock ∧ k_ ≠ gb120 ∧ k_ ≠ gb128 ∧ k_ ≠ gb136 ∧ k_ ≠ gb148))
     case first =>
      have H := HC85.out;clear HC85;by_cases c92 : x20_2 < (x121001_2.length : Int)
      rotate_left
      ·rw [if_neg c92] at H;have c92b0 : decide (x20_2 < (x121001_2.length : Int)) = false := decide_eq_false c92
       clear c92;(first | rw [c92b0] | (simp only [i64_w, i32_w]; rw [c92b0]) | skip)
       have H' := Am H
       clear H;have hnb98 := NB120_128.out;have hnc98 := NB128_120.out;have hnb99 := NB120_136.out;have hnc99 := NB136_120.out;have hnb100 := NB120_148.out;have hnc100 := NB148_120.out;obtain ⟨hcz101_0, hcz101_1, hfz101_0, hfz101_1⟩ := zc2 BK120;obtain ⟨Ao102, co102, eo102⟩ := Kd.V_slice HO_121001.out
       subst eo102
       go_wp2
       go_meet
       case rel => exact ⟨_, (false), zG, H', ⟨by have := HJ11.out; have := HK2.out; first | omega | exact Nat.le_refl _⟩, ⟨(zR HO_8)⟩, ⟨(zV HO_121000)⟩, ⟨(zV HO_121001)⟩, ⟨(zV HO_129000)⟩, ⟨(zV HO_129001)⟩, ⟨(zV HO_137000)⟩, ⟨(zV HO_137001)⟩, ⟨(zR HO_149000)⟩, ⟨(zR HO_149001)⟩, ⟨(zK BK120)⟩, ⟨(zK BK128)⟩, ⟨(zK BK136)⟩, ⟨(zK BK148)⟩, ⟨(zB HB)⟩⟩
      rw [if_pos c92] at H;have c92b0 : decide (x20_2 < (x121001_2.length : Int)) = true := decide_eq_true c92
      clear c92;(first | rw [c92b0] | (simp only [i64_w, i32_w]; rw [c92b0]) | skip)
      have H' := Am H
      clear H;have hnb93 := NB120_128.out;have hnc93 := NB128_120.out;have hnb94 := NB120_136.out;have hnc94 := NB136_120.out;have hnb95 := NB120_148.out;have hnc95 := NB148_120.out;obtain ⟨hcz96_0, hcz96_1, hfz96_0, hfz96_1⟩ := zc2 BK120;obtain ⟨Ao97, co97, eo97⟩ := Kd.V_slice HO_121001.out
      subst eo97
      have p152 : 0 ≤ (x20_2 : Int) := of_decide_eq_true (by assumption)
      have q152 : x20_2 < (x121001_2.length : Int) := of_decide_eq_true (by assumption)
      obtain ⟨ad152, e152, hx152_0⟩ := Kd.at_bool (Kd.V_reads' HO_121001.out).2.2 x20_2 p152 q152
      cases e152
      replace p152 := eq_true p152;replace q152 := eq_true q152;go_wp2
      go_meet
      case rel => exact ⟨_, (!(rdOf false x121001_2 x20_2)), zG, H', ⟨by have := HJ11.out; have := HK2.out; first | omega | exact Nat.le_refl _⟩, ⟨(zR HO_8)⟩, ⟨(zV HO_121000)⟩, ⟨(zV HO_121001)⟩, ⟨(zV HO_129000)⟩, ⟨(zV HO_129001)⟩, ⟨(zV HO_137000)⟩, ⟨(zV HO_137001)⟩, ⟨(zR HO_149000)⟩, ⟨(zR HO_149001)⟩, ⟨(zK BK120)⟩, ⟨(zK BK128)⟩, ⟨(zK BK136)⟩, ⟨(zK BK148)⟩, ⟨(zB HB)⟩⟩
     case rest =>
     as_aux_lemma =>
      clear HC85;(try clear c1);(try clear p1);(try clear q1);(try clear hx1);(try clear p2);(try clear c6);(try clear c8);(try clear c9);(try clear c10);(try clear c14);(try clear p15);(try clear q15);(try clear hx15);(try clear c67);(try clear c82);(try clear c82b0);(try clear c83);(try clear c83b0);(try clear c86);(try clear c87);(try clear c88);(try clear c92);(try clear c92b0);(try clear c93);(try clear c94);(try clear c95);(try clear c98);(try clear c99);(try clear c100);(try clear hcz101_0);(try clear hcz101_1);(try clear hcz89_0);(try clear hcz89_1);(try clear hcz96_0);(try clear hcz96_1);(try clear hfz101_0);(try clear hfz101_1);(try clear hfz89_0);(try clear hfz89_1);(try clear hfz96_0);(try clear hfz96_1);(try clear hx150_0);(try clear hx152_0);(try clear p150);(try clear p152);(try clear p2);(try clear q150);(try clear q152);obtain ⟨kq, x22_84, rfl, HA, HJ84, HO_8, HO_121000, HO_121001, HO_129000, HO_129001, HO_137000, HO_137001, HO_149000, HO_149001, BK120, BK128, BK136, BK148, HB⟩ := hcut
      cases kq with
      | zero => exact absurd HA.out (by simp [epitomelaw09_ComposeGaps.j2])
      | succ kj84 =>
       have H := HA.out;clear HA;simp only [epitomelaw09_ComposeGaps.j2] at H
       have H' := Am H
       clear H;go_wp2
       go_loopg [19, 23] kj84 (fun kq v19 v23 w' => ∃ (x19_4 : Int) (x23_4 : Int) (x121000_4 : List ByteArray) (x129000_4 : List ByteArray) (x137000_4 : List ByteArray) (x149000_4 : List ByteArray) (u121000 : Value) (u129000 : Value) (u137000 : Value) (u149000 : Value), v19 = .int .i64 x19_4 ∧ v23 = .int .i64 x23_4 ∧ (fun (ok_ : Nat → Prop) => Aside0 (epitomelaw09_ComposeGaps.l1 kq t102 x19_4 x20_2 t151 x22_84 x23_4 x121000_4 x121001_2 x129000_4 x129001_2 x137000_4 x137001_2 x149000_4 x149001_2 = some r) ∧ Aside0 (kq ≤ kj84) ∧ Aside0 (Kd.R k55 55 w' w.heap.size (fun _ => True) (.slice Ao15 t102.length co15) t102) ∧ Aside0 (Kd.V Kd.string 9 w' w.heap.size ok_ u121000 x121000_4) ∧ Aside0 (Kd.V Kd.bool 4 w' w.heap.size ok_ u121001 x121001_2) ∧ Aside0 (Kd.V Kd.string 9 w' w.heap.size ok_ u129000 x129000_4) ∧ Aside0 (Kd.V Kd.bool 4 w' w.heap.size ok_ u129001 x129001_2) ∧ Aside0 (Kd.V Kd.string 9 w' w.heap.size ok_ u137000 x137000_4) ∧ Aside0 (Kd.V Kd.bool 4 w' w.heap.size ok_ u137001 x137001_2) ∧ Aside0 (Kd.R Kd.string 9 w' w.heap.size (fun _ => True) u149000 x149000_4) ∧ Aside0 (Kd.R Kd.bool 4 w' w.heap.size (fun _ => True) u149001 x149001_2) ∧ Aside0 (w'.heap[gb120]? = some (.cells #[u121000, u121001] 32 (0, 0))) ∧ Aside0 (w'.heap[gb128]? = some (.cells #[u129000, u129001] 32 (0, 0))) ∧ Aside0 (w'.heap[gb136]? = some (.cells #[u137000, u137001] 32 (0, 0))) ∧ Aside0 (w'.heap[gb148]? = some (.cells #[u149000, u149001] 32 (0, 0))) ∧ Aside0 (Below w.heap.size w w')) (fun k_ => some k_ ≠ ((.slice Ao15 t102.length co15) : Value).ownBlock ∧ some k_ ≠ (u149000 : Value).ownBlock ∧ some k_ ≠ (u149001 : Value).ownBlock ∧ k_ ≠ gb120 ∧ k_ ≠ gb128 ∧ k_ ≠ gb136 ∧ k_ ≠ gb148))
       case atStart => exact ⟨(x19_2), (0), (x121000_2), (x129000_2), (x137000_2), (x149000_2), (.slice (some ad150) x121000_2.length co90), (u129000), (u137000), (u149000), zG, zG, H', ⟨Nat.le_refl _⟩, ⟨(zR HO_8)⟩, ⟨(zV HO_121000)⟩, ⟨(zV HO_121001)⟩, ⟨(zV HO_129000)⟩, ⟨(zV HO_129001)⟩, ⟨(zV HO_137000)⟩, ⟨(zV HO_137001)⟩, ⟨(zR HO_149000)⟩, ⟨(zR HO_149001)⟩, ⟨(zK BK120)⟩, ⟨(zK BK128)⟩, ⟨(zK BK136)⟩, ⟨(zK BK148)⟩, ⟨(zB HB)⟩⟩
       case round =>
       as_aux_lemma =>
        clear H';(try clear c1);(try clear p1);(try clear q1);(try clear hx1);(try clear p2);(try clear c6);(try clear c8);(try clear c9);(try clear c10);(try clear c14);(try clear p15);(try clear q15);(try clear hx15);(try clear c67);(try clear c82);(try clear c82b0);(try clear c83);(try clear c83b0);(try clear c86);(try clear c87);(try clear c88);(try clear c92);(try clear c92b0);(try clear c93);(try clear c94);(try clear c95);(try clear c98);(try clear c99);(try clear c100);(try clear hcz101_0);(try clear hcz101_1);(try clear hcz89_0);(try clear hcz89_1);(try clear hcz96_0);(try clear hcz96_1);(try clear hfz101_0);(try clear hfz101_1);(try clear hfz89_0);(try clear hfz89_1);(try clear hfz96_0);(try clear hfz96_1);(try clear hx150_0);(try clear hx152_0);(try clear p1);(try clear p15);(try clear p150);(try clear p152);(try clear p2);(try clear q1);(try clear q15);(try clear q150);(try clear q152);obtain ⟨x19_4, x23_4, x121000_4, x129000_4, x137000_4, x149000_4, u121000, u129000, u137000, u149000, rfl, rfl, HA, HK4, HO_8, HO_121000, HO_121001, HO_129000, HO_129001, HO_137000, HO_137001, HO_149000, HO_149001, BK120, BK128, BK136, BK148, HB⟩ := hrel
        cases gk with
        | zero => exact absurd HA.out (by simp [epitomelaw09_ComposeGaps.l1])
        | succ k4 =>
         have H := HA.out;clear HA;simp only [epitomelaw09_ComposeGaps.l1] at H
         by_cases c103 : x23_4 ≤ t151
         rotate_left
         ·rw [if_neg c103] at H;have c103b0 : decide (x23_4 ≤ t151) = false := decide_eq_false c103
          clear c103;by_cases c219 : x22_84 = true
          rotate_left
          ·replace c219 := Bool.eq_false_iff.mpr c219
           subst c219
           have H1 : (epitomelaw09_ComposeGaps.l0 k4 t102 x19_4 (wrap64 (x20_2 + 1)) x121000_4 x121001_2 x129000_4 x129001_2 x137000_4 x137001_2 x149000_4 x149001_2) = some r := by rw [if_neg (show ¬ (false = true) by decide)] at H; exact H
           clear H;have H := H1
           clear H1;have H' := Am H
           clear H;go_wp2
           go_roundg k4
           case measure => have := HJ11.out; have := HK2.out; have := HJ84.out; have := HK4.out; omega
           case rel => exact ⟨(x19_4), (wrap64 (x20_2 + 1)), (x121000_4), (x121001_2), (x129000_4), (x129001_2), (x137000_4), (x137001_2), (x149000_4), (x149001_2), (u121000), (u121001), (u129000), (u129001), (u137000), (u137001), (u149000), (u149001), zG, zG, H', ⟨by have := HJ11.out; have := HK2.out; have := HJ84.out; have := HK4.out; omega⟩, ⟨(zR HO_8)⟩, ⟨(zV HO_121000)⟩, ⟨(zV HO_121001)⟩, ⟨(zV HO_129000)⟩, ⟨(zV HO_129001)⟩, ⟨(zV HO_137000)⟩, ⟨(zV HO_137001)⟩, ⟨(zR HO_149000)⟩, ⟨(zR HO_149001)⟩, ⟨(zK BK120)⟩, ⟨(zK BK128)⟩, ⟨(zK BK136)⟩, ⟨(zK BK148)⟩, ⟨(zB HB)⟩⟩
          subst c219
          have H1 : (if x19_4 < (x129001_2.length : Int) then (if 0 ≤ x19_4 then (if 0 ≤ x20_2 then (if x20_2 < (x149001_2.length : Int) then (epitomelaw09_ComposeGaps.l0 k4 t102 (wrap64 (x19_4 + 1)) (wrap64 (x20_2 + 1)) x121000_4 x121001_2 x129000_4 x129001_2 x137000_4 x137001_2 x149000_4 (x149001_2.set (x20_2 : Int).toNat (rdOf false x129001_2 x19_4))) else (none)) else (none)) else (none)) else (epitomelaw09_ComposeGaps.l0 k4 t102 x19_4 (wrap64 (x20_2 + 1)) x121000_4 x121001_2 x129000_4 x129001_2 x137000_4 x137001_2 x149000_4 x149001_2)) = some r := by rw [if_pos rfl] at H; exact H
          clear H;have H := H1
          clear H1;by_cases c220 : x19_4 < (x129001_2.length : Int)
          rotate_left
          ·rw [if_neg c220] at H;have c220b0 : decide (x19_4 < (x129001_2.length : Int)) = false := decide_eq_false c220
           clear c220;have H' := Am H
           clear H;have hnb232 := NB128_120.out;have hnc232 := NB120_128.out;have hnb233 := NB128_136.out;have hnc233 := NB136_128.out;have hnb234 := NB128_148.out;have hnc234 := NB148_128.out;obtain ⟨hcz235_0, hcz235_1, hfz235_0, hfz235_1⟩ := zc2 BK128;obtain ⟨Ao236, co236, eo236⟩ := Kd.V_slice HO_129001.out
           subst eo236
           go_wp2
           go_roundg k4
           case measure => have := HJ11.out; have := HK2.out; have := HJ84.out; have := HK4.out; omega
           case rel => exact ⟨(x19_4), (wrap64 (x20_2 + 1)), (x121000_4), (x121001_2), (x129000_4), (x129001_2), (x137000_4), (x137001_2), (x149000_4), (x149001_2), (u121000), (u121001), (u129000), (.slice Ao236 x129001_2.length co236), (u137000), (u137001), (u149000), (u149001), zG, zG, H', ⟨by have := HJ11.out; have := HK2.out; have := HJ84.out; have := HK4.out; omega⟩, ⟨(zR HO_8)⟩, ⟨(zV HO_121000)⟩, ⟨(zV HO_121001)⟩, ⟨(zV HO_129000)⟩, ⟨(zV HO_129001)⟩, ⟨(zV HO_137000)⟩, ⟨(zV HO_137001)⟩, ⟨(zR HO_149000)⟩, ⟨(zR HO_149001)⟩, ⟨(zK BK120)⟩, ⟨(zK BK128)⟩, ⟨(zK BK136)⟩, ⟨(zK BK148)⟩, ⟨(zB HB)⟩⟩
          rw [if_pos c220] at H;have c220b0 : decide (x19_4 < (x129001_2.length : Int)) = true := decide_eq_true c220
          clear c220;by_cases c221 : 0 ≤ x19_4
          rotate_left
          ·rw [if_neg c221] at H;exact absurd H (by simp)
          rw [if_pos c221] at H;have c221b0 : decide (0 ≤ x19_4) = true := decide_eq_true c221
          clear c221;by_cases c222 : 0 ≤ x20_2
          rotate_left
          ·rw [if_neg c222] at H;exact absurd H (by simp)
          rw [if_pos c222] at H;have c222b0 : decide (0 ≤ x20_2) = true := decide_eq_true c222
          clear c222;by_cases c223 : x20_2 < (x149001_2.length : Int)
          rotate_left
          ·rw [if_neg c223] at H;exact absurd H (by simp)
          rw [if_pos c223] at H;have c223b0 : decide (x20_2 < (x149001_2.length : Int)) = true := decide_eq_true c223
          clear c223;obtain ⟨y154, hy154⟩ : ∃ y_ : List Bool, y_ = (x149001_2.set (x20_2 : Int).toNat (rdOf false x129001_2 x19_4)) := ⟨_, rfl⟩
          replace H : (epitomelaw09_ComposeGaps.l0 k4 t102 (wrap64 (x19_4 + 1)) (wrap64 (x20_2 + 1)) x121000_4 x121001_2 x129000_4 x129001_2 x137000_4 x137001_2 x149000_4 y154) = some r := by first | (rw [hy154]; with_reducible exact H) | (have H2_ := (Option.bind_some _ _).symm.trans H; rw [hy154]; with_reducible exact H2_) | (have H2_ := (Option.bind_some _ _).symm.trans H; with_reducible exact H2_) | with_reducible exact H | (rw [hy154]; exact H) | exact H
          have Ny154 := Am hy154;clear hy154;have H' := Am H
          clear H;have hnb225 := NB128_120.out;have hnc225 := NB120_128.out;have hnb226 := NB128_136.out;have hnc226 := NB136_128.out;have hnb227 := NB128_148.out;have hnc227 := NB148_128.out;obtain ⟨hcz228_0, hcz228_1, hfz228_0, hfz228_1⟩ := zc2 BK128;obtain ⟨Ao229, co229, eo229⟩ := Kd.V_slice HO_129001.out
          subst eo229
          try go_wp2
          replace HO_8 := Am (R_drew HO_8.out);replace HO_121000 := Am (Kd.V_drew HO_121000.out);replace HO_121001 := Am (Kd.V_drew HO_121001.out);replace HO_129000 := Am (Kd.V_drew HO_129000.out);replace HO_129001 := Am (Kd.V_drew HO_129001.out);replace HO_137000 := Am (Kd.V_drew HO_137000.out);replace HO_137001 := Am (Kd.V_drew HO_137001.out);replace HO_149000 := Am (R_drew HO_149000.out);replace HO_149001 := Am (R_drew HO_149001.out);replace BK120 := Am (blk_drew BK120.out);replace BK128 := Am (blk_drew BK128.out);replace BK136 := Am (blk_drew BK136.out);replace BK148 := Am (blk_drew BK148.out);replace HB := Am (below_drew1 HB.out);have p153 : 0 ≤ (x19_4 : Int) := of_decide_eq_true (by assumption)
          have q153 : x19_4 < (x129001_2.length : Int) := of_decide_eq_true (by assumption)
          obtain ⟨ad153, e153, hx153_0⟩ := Kd.at_bool (Kd.V_reads' HO_129001.out).2.2 x19_4 p153 q153
          cases e153
          replace p153 := eq_true p153;replace q153 := eq_true q153;have p224 : 0 ≤ (x20_2 : Int) := of_decide_eq_true (by assumption)
          have q224 : (x20_2 : Int) < ((x149001_2.length : Int) : Int) := of_decide_eq_true (by assumption)
          obtain ⟨go224, co224, eo224, gb224, gl224, cl224, HG224⟩ := R_form HO_149001.out (by omega)
          (first | cases eo224 | (injection eo224 with ea_ en_ ec_; (first | subst ea_ | (injection ea_ with ea_; subst ea_)); subst ec_; clear en_))
          have GB224 := Am gb224;have GG224 := Am HG224;clear gb224 gl224 HG224;obtain ⟨hx224_0, hf224_0⟩ := R_celln false HO_149001.out (x20_2 : Int) p224 q224
          replace p224 := eq_true p224;replace q224 := eq_true q224;have HP231 := R_putn HO_149001.out (x20_2 : Int) (rdOf false x129001_2 x19_4)
          rw [← Ny154.out] at HP231
          have HQ231 := Am HP231;clear HP231;refine start_ (n := 10) (S := fun w' => w'.cell? ⟨gb148, 0, none⟩ = some (u149000) ∧ w'.cell? ⟨gb148, 1, none⟩ = some (.slice (some ⟨go224, 0, none⟩) x149001_2.length co224) ∧ w'.cell? ⟨gb128, 0, none⟩ = some (u129000) ∧ w'.cell? ⟨gb128, 1, none⟩ = some (.slice (some ad153) x129001_2.length co229) ∧ w'.cell? (ad153.add (x19_4).toNat) = some (.bool (rdOf false x129001_2 x19_4))) (ds := [9]) #[zu, zu, zu, zu, zu, zu, zu, zu, zu, zu] (by kernel_rfl) rfl rfl ⟨(blk_cell BK148.out 0).trans rfl, (blk_cell BK148.out 1).trans rfl, (blk_cell BK128.out 0).trans rfl, (blk_cell BK128.out 1).trans rfl, hx153_0⟩ (fun hHeld => ?_); refine with_tabW epitomelaw09_ComposeGaps.tab33 epitomelaw09_ComposeGaps.bits33 (fun HT_ HW_ => ?_)
          generalize wr.drew = w230 at HO_8 HO_121000 HO_121001 HO_129000 HO_129001 HO_137000 HO_137001 HO_149000 HO_149001 BK120 BK128 BK136 BK148 HB GG224 HQ231 hf224_0 hx153_0 hx224_0 hHeld ⊢
          refine pure_ (i := 0) (N := some 240) (v := ?_) (a' := ?_) #[zt, zu, zu, zu, zu, zu, zu, zu, zu, zu] rfl rfl (any_of HT_.out (by kernel_rfl)) (fun _ _ _ h => h) (Or.inl ⟨by rfl, ?_⟩) ?_ ?_
          rotate_left
          ·intro w'
           go_simp;with_reducible rfl
          rotate_left
          ·simp only [Act.put, zS, i64_w, i32_w]
           rfl
          refine pure_ (i := 2) (N := some 242) (v := ?_) (a' := ?_) #[zt, zu, zt, zu, zu, zu, zu, zu, zu, zu] rfl rfl (any_of HT_.out (by kernel_rfl)) (fun _ _ _ h => h) (Or.inl ⟨by rfl, ?_⟩) ?_ ?_
          rotate_left
          ·intro w'
           go_simp;with_reducible rfl
          rotate_left
          ·simp only [Act.put, zS, i64_w, i32_w]
           rfl
          refine pure_ (i := 3) (N := some 243) (v := ?_) (a' := ?_) #[zt, zu, zt, zt, zu, zu, zu, zu, zu, zu] rfl rfl (any_of HT_.out (by kernel_rfl)) (fun _ _ _ h => h) (Or.inl ⟨by rfl, ?_⟩) ?_ ?_
          rotate_left
          ·intro w'
           go_simp;with_reducible rfl
          rotate_left
          ·simp only [Act.put, zS, i64_w, i32_w]
           rfl
          refine pure_ (i := 5) (N := some 245) (v := ?_) (a' := ?_) #[zt, zu, zt, zt, zu, zt, zu, zu, zu, zu] rfl rfl (any_of HT_.out (by kernel_rfl)) (fun _ _ _ h => h) (Or.inl ⟨by rfl, ?_⟩) ?_ ?_
          rotate_left
          ·intro w'
           go_simp;with_reducible rfl
          rotate_left
          ·simp only [Act.put, zS, i64_w, i32_w]
           rfl
          refine take_ (i := 1) (N := some 241) (v := ?_) (a' := ?_) #[zt, zt, zt, zt, zu, zt, zu, zu, zu, zu] rfl rfl (take_ofW HT_.out HW_.out (by kernel_rfl)) (fun _ _ _ h => h) (Or.inl ⟨by rfl, ?_⟩) hHeld ?_ ?_
          rotate_left
          ·rintro w' ⟨s0, s1, s2, s3, s4⟩
           go_simp;with_reducible rfl
          rotate_left
          ·simp only [Act.put, zS, i64_w, i32_w]
           rfl
          refine take_ (i := 4) (N := some 244) (v := ?_) (a' := ?_) #[zt, zt, zt, zt, zt, zt, zu, zu, zu, zu] rfl rfl (take_ofW HT_.out HW_.out (by kernel_rfl)) (fun _ _ _ h => h) (Or.inl ⟨by rfl, ?_⟩) hHeld ?_ ?_
          rotate_left
          ·rintro w' ⟨s0, s1, s2, s3, s4⟩
           go_simp;with_reducible rfl
          rotate_left
          ·simp only [Act.put, zS, i64_w, i32_w]
           rfl
          refine pure_ (i := 6) (N := some 246) (v := ?_) (a' := ?_) #[zt, zt, zt, zt, zt, zt, zt, zu, zu, zu] rfl rfl (any_of HT_.out (by kernel_rfl)) (fun _ _ _ h => h) (Or.inl ⟨by rfl, ?_⟩) ?_ ?_
          rotate_left
          ·intro w'
           go_simp;with_reducible rfl
          rotate_left
          ·simp only [Act.put, zS, i64_w, i32_w]
           rfl
          refine take_ (i := 7) (N := some 247) (v := ?_) (a' := ?_) #[zt, zt, zt, zt, zt, zt, zt, zt, zu, zu] rfl rfl (take_ofW HT_.out HW_.out (by kernel_rfl)) (fun _ _ _ h => h) (Or.inl ⟨by rfl, ?_⟩) hHeld ?_ ?_
          rotate_left
          ·rintro w' ⟨s0, s1, s2, s3, s4⟩
           go_simp;with_reducible rfl
          rotate_left
          ·simp only [Act.put, zS, i64_w, i32_w]
           rfl
          refine pure_ (i := 8) (N := some 248) (v := ?_) (a' := ?_) #[zt, zt, zt, zt, zt, zt, zt, zt, zt, zu] rfl rfl (any_of HT_.out (by kernel_rfl)) (fun _ _ _ h => h) (Or.inl ⟨by rfl, ?_⟩) ?_ ?_
          rotate_left
          ·intro w'
           go_simp;with_reducible rfl
          rotate_left
          ·simp only [Act.put, zS, i64_w, i32_w]
           rfl
          refine last_ (i := 9) (N := none) #[zt, zt, zt, zt, zt, zt, zt, zt, zt, zt] rfl rfl (one_of HT_.out (by kernel_rfl)) (by decide) (fun K hK => ?_)
          refine skip_ (w1 := ?_) (by rfl) rfl ?_ ?_
          rotate_left
          ·go_simp;rfl
          refine hK.out _ _ ?_
          clear hK K;refine done_ (done_of HT_.out (by kernel_rfl)) ?_
          try go_wp2
          go_roundg k4
          case measure => have := HJ11.out; have := HK2.out; have := HJ84.out; have := HK4.out; omega
          case rel => exact ⟨(wrap64 (x19_4 + 1)), (wrap64 (x20_2 + 1)), (x121000_4), (x121001_2), (x129000_4), (x129001_2), (x137000_4), (x137001_2), (x149000_4), (y154), (u121000), (u121001), (u129000), (.slice (some ad153) x129001_2.length co229), (u137000), (u137001), (u149000), (.slice (some ⟨go224, 0, none⟩) x149001_2.length co224), zG, zG, H', ⟨by have := HJ11.out; have := HK2.out; have := HJ84.out; have := HK4.out; omega⟩, ⟨by (with_reducible repeat (first | apply zA.a | apply zA.n | apply zA.d)); exact R_mono (R_far (p := ⟨go224, (x20_2 : Int).toNat, none⟩) (R_types HO_8.out GG224.out (by decide)) (fun _ hk => hk.2) (.bool (rdOf false x129001_2 x19_4))) (fun _ hk => trivial)⟩, ⟨zfg HO_121000 go224 (x20_2 : Int) (.bool (rdOf false x129001_2 x19_4))⟩, ⟨zfg HO_121001 go224 (x20_2 : Int) (.bool (rdOf false x129001_2 x19_4))⟩, ⟨zfg HO_129000 go224 (x20_2 : Int) (.bool (rdOf false x129001_2 x19_4))⟩, ⟨zfg HO_129001 go224 (x20_2 : Int) (.bool (rdOf false x129001_2 x19_4))⟩, ⟨zfg HO_137000 go224 (x20_2 : Int) (.bool (rdOf false x129001_2 x19_4))⟩, ⟨zfg HO_137001 go224 (x20_2 : Int) (.bool (rdOf false x129001_2 x19_4))⟩, ⟨by (with_reducible repeat (first | apply zA.a | apply zA.n | apply zA.d)); exact R_mono (R_far (p := ⟨go224, (x20_2 : Int).toNat, none⟩) (R_types HO_149000.out GG224.out (by decide)) (fun _ hk => hk.2) (.bool (rdOf false x129001_2 x19_4))) (fun _ hk => trivial)⟩, ⟨(zR HQ231)⟩, ⟨by (with_reducible repeat (first | refine zA.f ?_ _ | refine zA.g ?_ | refine zA.h ?_ _)); refine blk_far ?_ (by have h_ := R_ne HO_149001.out BK120.out (by decide); intro e_; exact h_ (by rw [e_]; rfl)) _; (with_reducible repeat (first | refine zA.f ?_ _ | refine zA.g ?_ | refine zA.h ?_ _)); exact BK120.out⟩, ⟨by (with_reducible repeat (first | refine zA.f ?_ _ | refine zA.g ?_ | refine zA.h ?_ _)); refine blk_far ?_ (by have h_ := R_ne HO_149001.out BK128.out (by decide); intro e_; exact h_ (by rw [e_]; rfl)) _; (with_reducible repeat (first | refine zA.f ?_ _ | refine zA.g ?_ | refine zA.h ?_ _)); exact BK128.out⟩, ⟨by (with_reducible repeat (first | refine zA.f ?_ _ | refine zA.g ?_ | refine zA.h ?_ _)); refine blk_far ?_ (by have h_ := R_ne HO_149001.out BK136.out (by decide); intro e_; exact h_ (by rw [e_]; rfl)) _; (with_reducible repeat (first | refine zA.f ?_ _ | refine zA.g ?_ | refine zA.h ?_ _)); exact BK136.out⟩, ⟨by (with_reducible repeat (first | refine zA.f ?_ _ | refine zA.g ?_ | refine zA.h ?_ _)); refine blk_far ?_ (by have h_ := R_ne HO_149001.out BK148.out (by decide); intro e_; exact h_ (by rw [e_]; rfl)) _; (with_reducible repeat (first | refine zA.f ?_ _ | refine zA.g ?_ | refine zA.h ?_ _)); exact BK148.out⟩, ⟨by repeat (first | (with_reducible first | exact HB.out | apply zA.b | apply zA.w | apply zA.e | refine zA.s ?_ GB224.out | refine zA.s ?_ GE120.out | refine zA.s ?_ GE128.out | refine zA.s ?_ GE136.out | refine zA.s ?_ GE148.out) | exact HB.out)⟩⟩
         rw [if_pos c103] at H;have c103b0 : decide (x23_4 ≤ t151) = true := decide_eq_true c103
         clear c103;have HC104 := Am H;clear H;go_upto_region 20 with (fail)
         go_cut [154] (fun v154 wc => ∃ (kq : Nat) (x154_103 : Bool), v154 = .bool x154_103 ∧ (fun (ok_ : Nat → Prop) => Aside0 (epitomelaw09_ComposeGaps.j4 kq t102 x19_4 x20_2 t151 x22_84 x23_4 x154_103 x121000_4 x121001_2 x129000_4 x129001_2 x137000_4 x137001_2 x149000_4 x149001_2 = some r) ∧ Aside0 (kq ≤ k4) ∧ Aside0 (Kd.R k55 55 wc w.heap.size (fun _ => True) (.slice Ao15 t102.length co15) t102) ∧ Aside0 (Kd.V Kd.string 9 wc w.heap.size ok_ u121000 x121000_4) ∧ Aside0 (Kd.V Kd.bool 4 wc w.heap.size ok_ u121001 x121001_2) ∧ Aside0 (Kd.V Kd.string 9 wc w.heap.size ok_ u129000 x129000_4) ∧ Aside0 (Kd.V Kd.bool 4 wc w.heap.size ok_ u129001 x129001_2) ∧ Aside0 (Kd.V Kd.string 9 wc w.heap.size ok_ u137000 x137000_4) ∧ Aside0 (Kd.V Kd.bool 4 wc w.heap.size ok_ u137001 x137001_2) ∧ Aside0 (Kd.R Kd.string 9 wc w.heap.size (fun _ => True) u149000 x149000_4) ∧ Aside0 (Kd.R Kd.bool 4 wc w.heap.size (fun _ => True) u149001 x149001_2) ∧ Aside0 (wc.heap[gb120]? = some (.cells #[u121000, u121001] 32 (0, 0))) ∧ Aside0 (wc.heap[gb128]? = some (.cells #[u129000, u129001] 32 (0, 0))) ∧ Aside0 (wc.heap[gb136]? = some (.cells #[u137000, u137001] 32 (0, 0))) ∧ Aside0 (wc.heap[gb148]? = some (.cells #[u149000, u149001] 32 (0, 0))) ∧ Aside0 (Below w.heap.size w wc)) (fun k_ => some k_ ≠ ((.slice Ao15 t102.length co15) : Value).ownBlock ∧ some k_ ≠ (u149000 : Value).ownBlock ∧ some k_ ≠ (u149001 : Value).ownBlock ∧ k_ ≠ gb120 ∧ k_ ≠ gb128 ∧ k_ ≠ gb136 ∧ k_ ≠ gb148))
         case first =>
          have H := HC104.out;clear HC104;by_cases c105 : x19_4 ≥ (x129000_4.length : Int)
          ·rw [if_pos c105] at H;have c105b0 : decide ((x129000_4.length : Int) ≤ x19_4) = true := decide_eq_true c105
           clear c105;(first | rw [c105b0] | (simp only [i64_w, i32_w]; rw [c105b0]) | skip)
           have H' := Am H
           clear H;have hnb106 := NB128_120.out;have hnc106 := NB120_128.out;have hnb107 := NB128_136.out;have hnc107 := NB136_128.out;have hnb108 := NB128_148.out;have hnc108 := NB148_128.out;obtain ⟨hcz109_0, hcz109_1, hfz109_0, hfz109_1⟩ := zc2 BK128;obtain ⟨Ao110, co110, eo110⟩ := Kd.V_slice HO_129000.out
           subst eo110
           go_wp2
           go_meet
           case rel => exact ⟨_, (true), zG, H', ⟨by have := HJ11.out; have := HK2.out; have := HJ84.out; have := HK4.out; first | omega | exact Nat.le_refl _⟩, ⟨(zR HO_8)⟩, ⟨(zV HO_121000)⟩, ⟨(zV HO_121001)⟩, ⟨(zV HO_129000)⟩, ⟨(zV HO_129001)⟩, ⟨(zV HO_137000)⟩, ⟨(zV HO_137001)⟩, ⟨(zR HO_149000)⟩, ⟨(zR HO_149001)⟩, ⟨(zK BK120)⟩, ⟨(zK BK128)⟩, ⟨(zK BK136)⟩, ⟨(zK BK148)⟩, ⟨(zB HB)⟩⟩
          rw [if_neg c105] at H;have c105b0 : decide ((x129000_4.length : Int) ≤ x19_4) = false := decide_eq_false c105
          clear c105;(first | rw [c105b0] | (simp only [i64_w, i32_w]; rw [c105b0]) | skip)
          by_cases c111 : x23_4 = t151
          rotate_left
          ·rw [if_neg c111] at H;have c111b0 : (x23_4 == t151) = false := beq_eq_false_iff_ne.mpr c111
           have c111b1 : (x23_4 != t151) = true := bne_iff_ne.mpr c111
           have H' := Am H
           clear H;have hnb127 := NB128_120.out;have hnc127 := NB120_128.out;have hnb128 := NB128_136.out;have hnc128 := NB136_128.out;have hnb129 := NB128_148.out;have hnc129 := NB148_128.out;obtain ⟨hcz130_0, hcz130_1, hfz130_0, hfz130_1⟩ := zc2 BK128;obtain ⟨Ao131, co131, eo131⟩ := Kd.V_slice HO_129000.out
           subst eo131
           go_wp2
           go_meet
           case rel => exact ⟨_, (false), zG, H', ⟨by have := HJ11.out; have := HK2.out; have := HJ84.out; have := HK4.out; first | omega | exact Nat.le_refl _⟩, ⟨(zR HO_8)⟩, ⟨(zV HO_121000)⟩, ⟨(zV HO_121001)⟩, ⟨(zV HO_129000)⟩, ⟨(zV HO_129001)⟩, ⟨(zV HO_137000)⟩, ⟨(zV HO_137001)⟩, ⟨(zR HO_149000)⟩, ⟨(zR HO_149001)⟩, ⟨(zK BK120)⟩, ⟨(zK BK128)⟩, ⟨(zK BK136)⟩, ⟨(zK BK148)⟩, ⟨(zB HB)⟩⟩
          rw [if_pos c111] at H;have c111b0 : (x23_4 == t151) = true := beq_iff_eq.mpr c111
          have c111b1 : (x23_4 != t151) = false := bne_eq_false_iff_eq.mpr c111
          clear c111;by_cases c112 : x22_84 = true
          ·subst c112
           have H1 : (epitomelaw09_ComposeGaps.j4 k4 t102 x19_4 x20_2 t151 true x23_4 false x121000_4 x121001_2 x129000_4 x129001_2 x137000_4 x137001_2 x149000_4 x149001_2) = some r := by rw [if_pos rfl] at H; exact H
           clear H;have H := H1
           clear H1;have H' := Am H
           clear H;have hnb113 := NB128_120.out;have hnc113 := NB120_128.out;have hnb114 := NB128_136.out;have hnc114 := NB136_128.out;have hnb115 := NB128_148.out;have hnc115 := NB148_128.out;obtain ⟨hcz116_0, hcz116_1, hfz116_0, hfz116_1⟩ := zc2 BK128;obtain ⟨Ao117, co117, eo117⟩ := Kd.V_slice HO_129000.out
           subst eo117
           go_wp2
           go_meet
           case rel => exact ⟨_, (false), zG, H', ⟨by have := HJ11.out; have := HK2.out; have := HJ84.out; have := HK4.out; first | omega | exact Nat.le_refl _⟩, ⟨(zR HO_8)⟩, ⟨(zV HO_121000)⟩, ⟨(zV HO_121001)⟩, ⟨(zV HO_129000)⟩, ⟨(zV HO_129001)⟩, ⟨(zV HO_137000)⟩, ⟨(zV HO_137001)⟩, ⟨(zR HO_149000)⟩, ⟨(zR HO_149001)⟩, ⟨(zK BK120)⟩, ⟨(zK BK128)⟩, ⟨(zK BK136)⟩, ⟨(zK BK148)⟩, ⟨(zB HB)⟩⟩
          replace c112 := Bool.eq_false_iff.mpr c112
          subst c112
          have H1 : (epitomelaw09_ComposeGaps.j4 k4 t102 x19_4 x20_2 t151 false x23_4 (decide (x20_2 < (x121001_2.length : Int))) x121000_4 x121001_2 x129000_4 x129001_2 x137000_4 x137001_2 x149000_4 x149001_2) = some r := by rw [if_neg (show ¬ (false = true) by decide)] at H; exact H
          clear H;have H := H1
          clear H1;have H' := Am H
          clear H;have hnb118 := NB128_120.out;have hnc118 := NB120_128.out;have hnb119 := NB128_136.out;have hnc119 := NB136_128.out;have hnb120 := NB128_148.out;have hnc120 := NB148_128.out;obtain ⟨hcz121_0, hcz121_1, hfz121_0, hfz121_1⟩ := zc2 BK128;obtain ⟨Ao122, co122, eo122⟩ := Kd.V_slice HO_129000.out
          subst eo122
          have hnb123 := NB120_136.out;have hnc123 := NB136_120.out;have hnb124 := NB120_148.out;have hnc124 := NB148_120.out;obtain ⟨hcz125_0, hcz125_1, hfz125_0, hfz125_1⟩ := zc2 BK120;obtain ⟨Ao126, co126, eo126⟩ := Kd.V_slice HO_121001.out
          subst eo126
          go_wp2
          go_meet
          case rel => exact ⟨_, (decide (x20_2 < (x121001_2.length : Int))), zG, H', ⟨by have := HJ11.out; have := HK2.out; have := HJ84.out; have := HK4.out; first | omega | exact Nat.le_refl _⟩, ⟨(zR HO_8)⟩, ⟨(zV HO_121000)⟩, ⟨(zV HO_121001)⟩, ⟨(zV HO_129000)⟩, ⟨(zV HO_129001)⟩, ⟨(zV HO_137000)⟩, ⟨(zV HO_137001)⟩, ⟨(zR HO_149000)⟩, ⟨(zR HO_149001)⟩, ⟨(zK BK120)⟩, ⟨(zK BK128)⟩, ⟨(zK BK136)⟩, ⟨(zK BK148)⟩, ⟨(zB HB)⟩⟩
         case rest =>
         as_aux_lemma =>
          clear HC104;(try clear c1);(try clear p1);(try clear q1);(try clear hx1);(try clear p2);(try clear c6);(try clear c8);(try clear c9);(try clear c10);(try clear c11);(try clear c12);(try clear c14);(try clear p15);(try clear q15);(try clear hx15);(try clear c67);(try clear c82);(try clear c82b0);(try clear c83);(try clear c83b0);(try clear c86);(try clear c87);(try clear c88);(try clear c92);(try clear c92b0);(try clear c93);(try clear c94);(try clear c95);(try clear c98);(try clear c99);(try clear c100);(try clear c103);(try clear c103b0);(try clear c105);(try clear c105b0);(try clear c106);(try clear c107);(try clear c108);(try clear c111);(try clear c111b0);(try clear c111b1);(try clear c112);(try clear c113);(try clear c114);(try clear c115);(try clear c118);(try clear c119);(try clear c120);(try clear c123);(try clear c124);(try clear c127);(try clear c128);(try clear c129);(try clear hcz101_0);(try clear hcz101_1);(try clear hcz109_0);(try clear hcz109_1);(try clear hcz116_0);(try clear hcz116_1);(try clear hcz121_0);(try clear hcz121_1);(try clear hcz125_0);(try clear hcz125_1);(try clear hcz130_0);(try clear hcz130_1);(try clear hcz89_0);(try clear hcz89_1);(try clear hcz96_0);(try clear hcz96_1);(try clear hfz101_0);(try clear hfz101_1);(try clear hfz109_0);(try clear hfz109_1);(try clear hfz116_0);(try clear hfz116_1);(try clear hfz121_0);(try clear hfz121_1);(try clear hfz125_0);(try clear hfz125_1);(try clear hfz130_0);(try clear hfz130_1);(try clear hfz89_0);(try clear hfz89_1);(try clear hfz96_0);(try clear hfz96_1);(try clear hx150_0);(try clear hx152_0);(try clear p1);(try clear p15);(try clear p150);(try clear p152);(try clear p2);(try clear q1);(try clear q15);(try clear q150);(try clear q152);obtain ⟨kq, x154_103, rfl, HA, HJ103, HO_8, HO_121000, HO_121001, HO_129000, HO_129001, HO_137000, HO_137001, HO_149000, HO_149001, BK120, BK128, BK136, BK148, HB⟩ := hcut
          cases kq with
          | zero => exact absurd HA.out (by simp [epitomelaw09_ComposeGaps.j4])
          | succ kj103 =>
           have H := HA.out;clear HA;simp only [epitomelaw09_ComposeGaps.j4] at H
           by_cases c132 : x154_103 = true
           ·subst c132
            have H1 : (if x22_84 = true then (if x19_4 < (x129001_2.length : Int) then (if 0 ≤ x19_4 then (if 0 ≤ x20_2 then (if x20_2 < (x149001_2.length : Int) then (epitomelaw09_ComposeGaps.l0 kj103 t102 (wrap64 (x19_4 + 1)) (wrap64 (x20_2 + 1)) x121000_4 x121001_2 x129000_4 x129001_2 x137000_4 x137001_2 x149000_4 (x149001_2.set (x20_2 : Int).toNat (rdOf false x129001_2 x19_4))) else (none)) else (none)) else (none)) else (epitomelaw09_ComposeGaps.l0 kj103 t102 x19_4 (wrap64 (x20_2 + 1)) x121000_4 x121001_2 x129000_4 x129001_2 x137000_4 x137001_2 x149000_4 x149001_2)) else (epitomelaw09_ComposeGaps.l0 kj103 t102 x19_4 (wrap64 (x20_2 + 1)) x121000_4 x121001_2 x129000_4 x129001_2 x137000_4 x137001_2 x149000_4 x149001_2)) = some r := by rw [if_pos rfl] at H; exact H
            clear H;have H := H1
            clear H1;by_cases c133 : x22_84 = true
            rotate_left
            ·replace c133 := Bool.eq_false_iff.mpr c133
             subst c133
             have H1 : (epitomelaw09_ComposeGaps.l0 kj103 t102 x19_4 (wrap64 (x20_2 + 1)) x121000_4 x121001_2 x129000_4 x129001_2 x137000_4 x137001_2 x149000_4 x149001_2) = some r := by rw [if_neg (show ¬ (false = true) by decide)] at H; exact H
             clear H;have H := H1
             clear H1;have H' := Am H
             clear H;go_wp2
             go_roundg kj103
             case measure => have := HJ11.out; have := HK2.out; have := HJ84.out; have := HK4.out; have := HJ103.out; omega
             case rel => exact ⟨(x19_4), (wrap64 (x20_2 + 1)), (x121000_4), (x121001_2), (x129000_4), (x129001_2), (x137000_4), (x137001_2), (x149000_4), (x149001_2), (u121000), (u121001), (u129000), (u129001), (u137000), (u137001), (u149000), (u149001), zG, zG, H', ⟨by have := HJ11.out; have := HK2.out; have := HJ84.out; have := HK4.out; have := HJ103.out; omega⟩, ⟨(zR HO_8)⟩, ⟨(zV HO_121000)⟩, ⟨(zV HO_121001)⟩, ⟨(zV HO_129000)⟩, ⟨(zV HO_129001)⟩, ⟨(zV HO_137000)⟩, ⟨(zV HO_137001)⟩, ⟨(zR HO_149000)⟩, ⟨(zR HO_149001)⟩, ⟨(zK BK120)⟩, ⟨(zK BK128)⟩, ⟨(zK BK136)⟩, ⟨(zK BK148)⟩, ⟨(zB HB)⟩⟩
            subst c133
            have H1 : (if x19_4 < (x129001_2.length : Int) then (if 0 ≤ x19_4 then (if 0 ≤ x20_2 then (if x20_2 < (x149001_2.length : Int) then (epitomelaw09_ComposeGaps.l0 kj103 t102 (wrap64 (x19_4 + 1)) (wrap64 (x20_2 + 1)) x121000_4 x121001_2 x129000_4 x129001_2 x137000_4 x137001_2 x149000_4 (x149001_2.set (x20_2 : Int).toNat (rdOf false x129001_2 x19_4))) else (none)) else (none)) else (none)) else (epitomelaw09_ComposeGaps.l0 kj103 t102 x19_4 (wrap64 (x20_2 + 1)) x121000_4 x121001_2 x129000_4 x129001_2 x137000_4 x137001_2 x149000_4 x149001_2)) = some r := by rw [if_pos rfl] at H; exact H
            clear H;have H := H1
            clear H1;by_cases c134 : x19_4 < (x129001_2.length : Int)
            rotate_left
            ·rw [if_neg c134] at H;have c134b0 : decide (x19_4 < (x129001_2.length : Int)) = false := decide_eq_false c134
             clear c134;have H' := Am H
             clear H;have hnb146 := NB128_120.out;have hnc146 := NB120_128.out;have hnb147 := NB128_136.out;have hnc147 := NB136_128.out;have hnb148 := NB128_148.out;have hnc148 := NB148_128.out;obtain ⟨hcz149_0, hcz149_1, hfz149_0, hfz149_1⟩ := zc2 BK128;obtain ⟨Ao150, co150, eo150⟩ := Kd.V_slice HO_129001.out
             subst eo150
             go_wp2
             go_roundg kj103
             case measure => have := HJ11.out; have := HK2.out; have := HJ84.out; have := HK4.out; have := HJ103.out; omega
             case rel => exact ⟨(x19_4), (wrap64 (x20_2 + 1)), (x121000_4), (x121001_2), (x129000_4), (x129001_2), (x137000_4), (x137001_2), (x149000_4), (x149001_2), (u121000), (u121001), (u129000), (.slice Ao150 x129001_2.length co150), (u137000), (u137001), (u149000), (u149001), zG, zG, H', ⟨by have := HJ11.out; have := HK2.out; have := HJ84.out; have := HK4.out; have := HJ103.out; omega⟩, ⟨(zR HO_8)⟩, ⟨(zV HO_121000)⟩, ⟨(zV HO_121001)⟩, ⟨(zV HO_129000)⟩, ⟨(zV HO_129001)⟩, ⟨(zV HO_137000)⟩, ⟨(zV HO_137001)⟩, ⟨(zR HO_149000)⟩, ⟨(zR HO_149001)⟩, ⟨(zK BK120)⟩, ⟨(zK BK128)⟩, ⟨(zK BK136)⟩, ⟨(zK BK148)⟩, ⟨(zB HB)⟩⟩
            rw [if_pos c134] at H;have c134b0 : decide (x19_4 < (x129001_2.length : Int)) = true := decide_eq_true c134
            clear c134;by_cases c135 : 0 ≤ x19_4
            rotate_left
            ·rw [if_neg c135] at H;exact absurd H (by simp)
            rw [if_pos c135] at H;have c135b0 : decide (0 ≤ x19_4) = true := decide_eq_true c135
            clear c135;by_cases c136 : 0 ≤ x20_2
            rotate_left
            ·rw [if_neg c136] at H;exact absurd H (by simp)
            rw [if_pos c136] at H;have c136b0 : decide (0 ≤ x20_2) = true := decide_eq_true c136
            clear c136;by_cases c137 : x20_2 < (x149001_2.length : Int)
            rotate_left
            ·rw [if_neg c137] at H;exact absurd H (by simp)
            rw [if_pos c137] at H;have c137b0 : decide (x20_2 < (x149001_2.length : Int)) = true := decide_eq_true c137
            clear c137;obtain ⟨y156, hy156⟩ : ∃ y_ : List Bool, y_ = (x149001_2.set (x20_2 : Int).toNat (rdOf false x129001_2 x19_4)) := ⟨_, rfl⟩
            replace H : (epitomelaw09_ComposeGaps.l0 kj103 t102 (wrap64 (x19_4 + 1)) (wrap64 (x20_2 + 1)) x121000_4 x121001_2 x129000_4 x129001_2 x137000_4 x137001_2 x149000_4 y156) = some r := by first | (rw [hy156]; with_reducible exact H) | (have H2_ := (Option.bind_some _ _).symm.trans H; rw [hy156]; with_reducible exact H2_) | (have H2_ := (Option.bind_some _ _).symm.trans H; with_reducible exact H2_) | with_reducible exact H | (rw [hy156]; exact H) | exact H
            have Ny156 := Am hy156;clear hy156;have H' := Am H
            clear H;have hnb139 := NB128_120.out;have hnc139 := NB120_128.out;have hnb140 := NB128_136.out;have hnc140 := NB136_128.out;have hnb141 := NB128_148.out;have hnc141 := NB148_128.out;obtain ⟨hcz142_0, hcz142_1, hfz142_0, hfz142_1⟩ := zc2 BK128;obtain ⟨Ao143, co143, eo143⟩ := Kd.V_slice HO_129001.out
            subst eo143
            try go_wp2
            replace HO_8 := Am (R_drew HO_8.out);replace HO_121000 := Am (Kd.V_drew HO_121000.out);replace HO_121001 := Am (Kd.V_drew HO_121001.out);replace HO_129000 := Am (Kd.V_drew HO_129000.out);replace HO_129001 := Am (Kd.V_drew HO_129001.out);replace HO_137000 := Am (Kd.V_drew HO_137000.out);replace HO_137001 := Am (Kd.V_drew HO_137001.out);replace HO_149000 := Am (R_drew HO_149000.out);replace HO_149001 := Am (R_drew HO_149001.out);replace BK120 := Am (blk_drew BK120.out);replace BK128 := Am (blk_drew BK128.out);replace BK136 := Am (blk_drew BK136.out);replace BK148 := Am (blk_drew BK148.out);replace HB := Am (below_drew1 HB.out);have p155 : 0 ≤ (x19_4 : Int) := of_decide_eq_true (by assumption)
            have q155 : x19_4 < (x129001_2.length : Int) := of_decide_eq_true (by assumption)
            obtain ⟨ad155, e155, hx155_0⟩ := Kd.at_bool (Kd.V_reads' HO_129001.out).2.2 x19_4 p155 q155
            cases e155
            replace p155 := eq_true p155;replace q155 := eq_true q155;have p138 : 0 ≤ (x20_2 : Int) := of_decide_eq_true (by assumption)
            have q138 : (x20_2 : Int) < ((x149001_2.length : Int) : Int) := of_decide_eq_true (by assumption)
            obtain ⟨go138, co138, eo138, gb138, gl138, cl138, HG138⟩ := R_form HO_149001.out (by omega)
            (first | cases eo138 | (injection eo138 with ea_ en_ ec_; (first | subst ea_ | (injection ea_ with ea_; subst ea_)); subst ec_; clear en_))
            have GB138 := Am gb138;have GG138 := Am HG138;clear gb138 gl138 HG138;obtain ⟨hx138_0, hf138_0⟩ := R_celln false HO_149001.out (x20_2 : Int) p138 q138
            replace p138 := eq_true p138;replace q138 := eq_true q138;have HP145 := R_putn HO_149001.out (x20_2 : Int) (rdOf false x129001_2 x19_4)
            rw [← Ny156.out] at HP145
            have HQ145 := Am HP145;clear HP145;refine start_ (n := 10) (S := fun w' => w'.cell? ⟨gb148, 0, none⟩ = some (u149000) ∧ w'.cell? ⟨gb148, 1, none⟩ = some (.slice (some ⟨go138, 0, none⟩) x149001_2.length co138) ∧ w'.cell? ⟨gb128, 0, none⟩ = some (u129000) ∧ w'.cell? ⟨gb128, 1, none⟩ = some (.slice (some ad155) x129001_2.length co143) ∧ w'.cell? (ad155.add (x19_4).toNat) = some (.bool (rdOf false x129001_2 x19_4))) (ds := [9]) #[zu, zu, zu, zu, zu, zu, zu, zu, zu, zu] (by kernel_rfl) rfl rfl ⟨(blk_cell BK148.out 0).trans rfl, (blk_cell BK148.out 1).trans rfl, (blk_cell BK128.out 0).trans rfl, (blk_cell BK128.out 1).trans rfl, hx155_0⟩ (fun hHeld => ?_); refine with_tabW epitomelaw09_ComposeGaps.tab33 epitomelaw09_ComposeGaps.bits33 (fun HT_ HW_ => ?_)
            generalize wc.drew = w144 at HO_8 HO_121000 HO_121001 HO_129000 HO_129001 HO_137000 HO_137001 HO_149000 HO_149001 BK120 BK128 BK136 BK148 HB GG138 HQ145 hf138_0 hx138_0 hx155_0 hHeld ⊢
            refine pure_ (i := 0) (N := some 240) (v := ?_) (a' := ?_) #[zt, zu, zu, zu, zu, zu, zu, zu, zu, zu] rfl rfl (any_of HT_.out (by kernel_rfl)) (fun _ _ _ h => h) (Or.inl ⟨by rfl, ?_⟩) ?_ ?_
            rotate_left
            ·intro w'
             go_simp;with_reducible rfl
            rotate_left
            ·simp only [Act.put, zS, i64_w, i32_w]
             rfl
            refine pure_ (i := 2) (N := some 242) (v := ?_) (a' := ?_) #[zt, zu, zt, zu, zu, zu, zu, zu, zu, zu] rfl rfl (any_of HT_.out (by kernel_rfl)) (fun _ _ _ h => h) (Or.inl ⟨by rfl, ?_⟩) ?_ ?_
            rotate_left
            ·intro w'
             go_simp;with_reducible rfl
            rotate_left
            ·simp only [Act.put, zS, i64_w, i32_w]
             rfl
            refine pure_ (i := 3) (N := some 243) (v := ?_) (a' := ?_) #[zt, zu, zt, zt, zu, zu, zu, zu, zu, zu] rfl rfl (any_of HT_.out (by kernel_rfl)) (fun _ _ _ h => h) (Or.inl ⟨by rfl, ?_⟩) ?_ ?_
            rotate_left
            ·intro w'
             go_simp;with_reducible rfl
            rotate_left
            ·simp only [Act.put, zS, i64_w, i32_w]
             rfl
            refine pure_ (i := 5) (N := some 245) (v := ?_) (a' := ?_) #[zt, zu, zt, zt, zu, zt, zu, zu, zu, zu] rfl rfl (any_of HT_.out (by kernel_rfl)) (fun _ _ _ h => h) (Or.inl ⟨by rfl, ?_⟩) ?_ ?_
            rotate_left
            ·intro w'
             go_simp;with_reducible rfl
            rotate_left
            ·simp only [Act.put, zS, i64_w, i32_w]
             rfl
            refine take_ (i := 1) (N := some 241) (v := ?_) (a' := ?_) #[zt, zt, zt, zt, zu, zt, zu, zu, zu, zu] rfl rfl (take_ofW HT_.out HW_.out (by kernel_rfl)) (fun _ _ _ h => h) (Or.inl ⟨by rfl, ?_⟩) hHeld ?_ ?_
            rotate_left
            ·rintro w' ⟨s0, s1, s2, s3, s4⟩
             go_simp;with_reducible rfl
            rotate_left
            ·simp only [Act.put, zS, i64_w, i32_w]
             rfl
            refine take_ (i := 4) (N := some 244) (v := ?_) (a' := ?_) #[zt, zt, zt, zt, zt, zt, zu, zu, zu, zu] rfl rfl (take_ofW HT_.out HW_.out (by kernel_rfl)) (fun _ _ _ h => h) (Or.inl ⟨by rfl, ?_⟩) hHeld ?_ ?_
            rotate_left
            ·rintro w' ⟨s0, s1, s2, s3, s4⟩
             go_simp;with_reducible rfl
            rotate_left
            ·simp only [Act.put, zS, i64_w, i32_w]
             rfl
            refine pure_ (i := 6) (N := some 246) (v := ?_) (a' := ?_) #[zt, zt, zt, zt, zt, zt, zt, zu, zu, zu] rfl rfl (any_of HT_.out (by kernel_rfl)) (fun _ _ _ h => h) (Or.inl ⟨by rfl, ?_⟩) ?_ ?_
            rotate_left
            ·intro w'
             go_simp;with_reducible rfl
            rotate_left
            ·simp only [Act.put, zS, i64_w, i32_w]
             rfl
            refine take_ (i := 7) (N := some 247) (v := ?_) (a' := ?_) #[zt, zt, zt, zt, zt, zt, zt, zt, zu, zu] rfl rfl (take_ofW HT_.out HW_.out (by kernel_rfl)) (fun _ _ _ h => h) (Or.inl ⟨by rfl, ?_⟩) hHeld ?_ ?_
            rotate_left
            ·rintro w' ⟨s0, s1, s2, s3, s4⟩
             go_simp;with_reducible rfl
            rotate_left
            ·simp only [Act.put, zS, i64_w, i32_w]
             rfl
            refine pure_ (i := 8) (N := some 248) (v := ?_) (a' := ?_) #[zt, zt, zt, zt, zt, zt, zt, zt, zt, zu] rfl rfl (any_of HT_.out (by kernel_rfl)) (fun _ _ _ h => h) (Or.inl ⟨by rfl, ?_⟩) ?_ ?_
            rotate_left
            ·intro w'
             go_simp;with_reducible rfl
            rotate_left
            ·simp only [Act.put, zS, i64_w, i32_w]
             rfl
            refine last_ (i := 9) (N := none) #[zt, zt, zt, zt, zt, zt, zt, zt, zt, zt] rfl rfl (one_of HT_.out (by kernel_rfl)) (by decide) (fun K hK => ?_)
            refine skip_ (w1 := ?_) (by rfl) rfl ?_ ?_
            rotate_left
            ·go_simp;rfl
            refine hK.out _ _ ?_
            clear hK K;refine done_ (done_of HT_.out (by kernel_rfl)) ?_
            try go_wp2
            go_roundg kj103
            case measure => have := HJ11.out; have := HK2.out; have := HJ84.out; have := HK4.out; have := HJ103.out; omega
            case rel => exact ⟨(wrap64 (x19_4 + 1)), (wrap64 (x20_2 + 1)), (x121000_4), (x121001_2), (x129000_4), (x129001_2), (x137000_4), (x137001_2), (x149000_4), (y156), (u121000), (u121001), (u129000), (.slice (some ad155) x129001_2.length co143), (u137000), (u137001), (u149000), (.slice (some ⟨go138, 0, none⟩) x149001_2.length co138), zG, zG, H', ⟨by have := HJ11.out; have := HK2.out; have := HJ84.out; have := HK4.out; have := HJ103.out; omega⟩, ⟨by (with_reducible repeat (first | apply zA.a | apply zA.n | apply zA.d)); exact R_mono (R_far (p := ⟨go138, (x20_2 : Int).toNat, none⟩) (R_types HO_8.out GG138.out (by decide)) (fun _ hk => hk.2) (.bool (rdOf false x129001_2 x19_4))) (fun _ hk => trivial)⟩, ⟨zfg HO_121000 go138 (x20_2 : Int) (.bool (rdOf false x129001_2 x19_4))⟩, ⟨zfg HO_121001 go138 (x20_2 : Int) (.bool (rdOf false x129001_2 x19_4))⟩, ⟨zfg HO_129000 go138 (x20_2 : Int) (.bool (rdOf false x129001_2 x19_4))⟩, ⟨zfg HO_129001 go138 (x20_2 : Int) (.bool (rdOf false x129001_2 x19_4))⟩, ⟨zfg HO_137000 go138 (x20_2 : Int) (.bool (rdOf false x129001_2 x19_4))⟩, ⟨zfg HO_137001 go138 (x20_2 : Int) (.bool (rdOf false x129001_2 x19_4))⟩, ⟨by (with_reducible repeat (first | apply zA.a | apply zA.n | apply zA.d)); exact R_mono (R_far (p := ⟨go138, (x20_2 : Int).toNat, none⟩) (R_types HO_149000.out GG138.out (by decide)) (fun _ hk => hk.2) (.bool (rdOf false x129001_2 x19_4))) (fun _ hk => trivial)⟩, ⟨(zR HQ145)⟩, ⟨by (with_reducible repeat (first | refine zA.f ?_ _ | refine zA.g ?_ | refine zA.h ?_ _)); refine blk_far ?_ (by have h_ := R_ne HO_149001.out BK120.out (by decide); intro e_; exact h_ (by rw [e_]; rfl)) _; (with_reducible repeat (first | refine zA.f ?_ _ | refine zA.g ?_ | refine zA.h ?_ _)); exact BK120.out⟩, ⟨by (with_reducible repeat (first | refine zA.f ?_ _ | refine zA.g ?_ | refine zA.h ?_ _)); refine blk_far ?_ (by have h_ := R_ne HO_149001.out BK128.out (by decide); intro e_; exact h_ (by rw [e_]; rfl)) _; (with_reducible repeat (first | refine zA.f ?_ _ | refine zA.g ?_ | refine zA.h ?_ _)); exact BK128.out⟩, ⟨by (with_reducible repeat (first | refine zA.f ?_ _ | refine zA.g ?_ | refine zA.h ?_ _)); refine blk_far ?_ (by have h_ := R_ne HO_149001.out BK136.out (by decide); intro e_; exact h_ (by rw [e_]; rfl)) _; (with_reducible repeat (first | refine zA.f ?_ _ | refine zA.g ?_ | refine zA.h ?_ _)); exact BK136.out⟩, ⟨by (with_reducible repeat (first | refine zA.f ?_ _ | refine zA.g ?_ | refine zA.h ?_ _)); refine blk_far ?_ (by have h_ := R_ne HO_149001.out BK148.out (by decide); intro e_; exact h_ (by rw [e_]; rfl)) _; (with_reducible repeat (first | refine zA.f ?_ _ | refine zA.g ?_ | refine zA.h ?_ _)); exact BK148.out⟩, ⟨by repeat (first | (with_reducible first | exact HB.out | apply zA.b | apply zA.w | apply zA.e | refine zA.s ?_ GB138.out | refine zA.s ?_ GE120.out | refine zA.s ?_ GE128.out | refine zA.s ?_ GE136.out | refine zA.s ?_ GE148.out) | exact HB.out)⟩⟩
           replace c132 := Bool.eq_false_iff.mpr c132
           subst c132
           have H1 : ((place_Least.f kj103 t102 x19_4).bind fun bt157 => (if bt157.2 = 0 then (if bt157.1 < 0 then (epitomelaw09_ComposeGaps.j5 kj103 t102 x19_4 x20_2 t151 x22_84 x23_4 bt157.1 true x121000_4 x121001_2 x129000_4 x129001_2 x137000_4 x137001_2 x149000_4 x149001_2) else (epitomelaw09_ComposeGaps.j5 kj103 t102 x19_4 x20_2 t151 x22_84 x23_4 bt157.1 (decide (bt157.1 ≥ (x149000_4.length : Int))) x121000_4 x121001_2 x129000_4 x129001_2 x137000_4 x137001_2 x149000_4 x149001_2)) else (epitomelaw09_ComposeGaps.j5 kj103 t102 x19_4 x20_2 t151 x22_84 x23_4 bt157.1 true x121000_4 x121001_2 x129000_4 x129001_2 x137000_4 x137001_2 x149000_4 x149001_2))) = some r := by rw [if_neg (show ¬ (false = true) by decide)] at H; exact H
           clear H;have H := H1
           clear H1;replace H := Option.bind_eq_some_iff.mp H;obtain ⟨⟨t157, t158⟩, A1510, H⟩ := H;have A151 := Am A1510;clear A1510;have HC152 := Am H;clear H;go_upto_region 22 with (first | ((with_reducible refine gate_callee (f := 15) rfl ?_); refine goesL_ (some 158) rfl rfl Tryd.func15 (by kernel_rfl) rfl #[.slice Ao15 t102.length co15, .int .i64 x19_4] rfl zE ?_; (with_reducible refine (place_Least.calls kj103 _ _ t102 x19_4 t157 t158 _ ?side1 ?side2 ?side3 A151.out).mono ?_); (case side1 => exact zg HG HB); (case side2 => exact zI (R_reads' HO_8.out).2.2); (case side3 => exact (R_reads' HO_8.out).2.1); rintro e w153 ⟨rfl, hb⟩; refine ⟨_, rfl, ?_⟩; replace HO_8 := Am (R_below (zR HO_8) hb);replace HO_121000 := Am (Kd.V_below (zV HO_121000) hb);replace HO_121001 := Am (Kd.V_below (zV HO_121001) hb);replace HO_129000 := Am (Kd.V_below (zV HO_129000) hb);replace HO_129001 := Am (Kd.V_below (zV HO_129001) hb);replace HO_137000 := Am (Kd.V_below (zV HO_137000) hb);replace HO_137001 := Am (Kd.V_below (zV HO_137001) hb);replace HO_149000 := Am (R_below (zR HO_149000) hb);replace HO_149001 := Am (R_below (zR HO_149001) hb);replace BK120 := Am (zU BK120 hb);replace BK128 := Am (zU BK128 hb);replace BK136 := Am (zU BK136 hb);replace BK148 := Am (zU BK148 hb);replace HB := Am (below_step (zB HB) hb); (try clear hb)))
           (try simp only [Act.put, zS])
           go_cut [173] (fun v173 wc => ∃ (kq : Nat) (x173_151 : Bool), v173 = .bool x173_151 ∧ (fun (ok_ : Nat → Prop) => Aside0 (epitomelaw09_ComposeGaps.j5 kq t102 x19_4 x20_2 t151 x22_84 x23_4 t157 x173_151 x121000_4 x121001_2 x129000_4 x129001_2 x137000_4 x137001_2 x149000_4 x149001_2 = some r) ∧ Aside0 (kq ≤ kj103) ∧ Aside0 (Kd.R k55 55 wc w.heap.size (fun _ => True) (.slice Ao15 t102.length co15) t102) ∧ Aside0 (Kd.V Kd.string 9 wc w.heap.size ok_ u121000 x121000_4) ∧ Aside0 (Kd.V Kd.bool 4 wc w.heap.size ok_ u121001 x121001_2) ∧ Aside0 (Kd.V Kd.string 9 wc w.heap.size ok_ u129000 x129000_4) ∧ Aside0 (Kd.V Kd.bool 4 wc w.heap.size ok_ u129001 x129001_2) ∧ Aside0 (Kd.V Kd.string 9 wc w.heap.size ok_ u137000 x137000_4) ∧ Aside0 (Kd.V Kd.bool 4 wc w.heap.size ok_ u137001 x137001_2) ∧ Aside0 (Kd.R Kd.string 9 wc w.heap.size (fun _ => True) u149000 x149000_4) ∧ Aside0 (Kd.R Kd.bool 4 wc w.heap.size (fun _ => True) u149001 x149001_2) ∧ Aside0 (wc.heap[gb120]? = some (.cells #[u121000, u121001] 32 (0, 0))) ∧ Aside0 (wc.heap[gb128]? = some (.cells #[u129000, u129001] 32 (0, 0))) ∧ Aside0 (wc.heap[gb136]? = some (.cells #[u137000, u137001] 32 (0, 0))) ∧ Aside0 (wc.heap[gb148]? = some (.cells #[u149000, u149001] 32 (0, 0))) ∧ Aside0 (Below w.heap.size w wc)) (fun k_ => some k_ ≠ ((.slice Ao15 t102.length co15) : Value).ownBlock ∧ some k_ ≠ (u149000 : Value).ownBlock ∧ some k_ ≠ (u149001 : Value).ownBlock ∧ k_ ≠ gb120 ∧ k_ ≠ gb128 ∧ k_ ≠ gb136 ∧ k_ ≠ gb148))
           case first =>
            have H := HC152.out;clear HC152;by_cases c154 : t158 = 0
            rotate_left
            ·rw [if_neg c154] at H;have c154b0 : (t158 == 0) = false := beq_eq_false_iff_ne.mpr c154
             have c154b1 : (t158 != 0) = true := bne_iff_ne.mpr c154
             (first | rw [c154b0] | (simp only [i64_w, i32_w]; rw [c154b0]) | skip)
             exact absurd (H.trans (congrArg some hr_.out)) (jno5_ _ _ _ _ _ _ _ _ _ _ _ _ _ _ _ _)
            rw [if_pos c154] at H;have c154b0 : (t158 == 0) = true := beq_iff_eq.mpr c154
            have c154b1 : (t158 != 0) = false := bne_eq_false_iff_eq.mpr c154
            clear c154;(first | rw [c154b0] | (simp only [i64_w, i32_w]; rw [c154b0]) | skip)
            by_cases c155 : t157 < 0
            ·rw [if_pos c155] at H;have c155b0 : decide (t157 < 0) = true := decide_eq_true c155
             clear c155;exact absurd (H.trans (congrArg some hr_.out)) (jno5_ _ _ _ _ _ _ _ _ _ _ _ _ _ _ _ _)
            rw [if_neg c155] at H;have c155b0 : decide (t157 < 0) = false := decide_eq_false c155
            clear c155;have H' := Am H
            clear H;have hnb156 := NB148_120.out;have hnc156 := NB120_148.out;have hnb157 := NB148_128.out;have hnc157 := NB128_148.out;have hnb158 := NB148_136.out;have hnc158 := NB136_148.out;obtain ⟨hcz159_0, hcz159_1, hfz159_0, hfz159_1⟩ := zc2 BK148;obtain ⟨Ao160, co160, eo160⟩ := R_slice HO_149000.out
            subst eo160
            go_wp2
            go_meet
            case rel => exact ⟨_, (decide (t157 ≥ (x149000_4.length : Int))), zG, H', ⟨by have := HJ11.out; have := HK2.out; have := HJ84.out; have := HK4.out; have := HJ103.out; first | omega | exact Nat.le_refl _⟩, ⟨(zR HO_8)⟩, ⟨(zV HO_121000)⟩, ⟨(zV HO_121001)⟩, ⟨(zV HO_129000)⟩, ⟨(zV HO_129001)⟩, ⟨(zV HO_137000)⟩, ⟨(zV HO_137001)⟩, ⟨(zR HO_149000)⟩, ⟨(zR HO_149001)⟩, ⟨(zK BK120)⟩, ⟨(zK BK128)⟩, ⟨(zK BK136)⟩, ⟨(zK BK148)⟩, ⟨(zB HB)⟩⟩
           case rest =>
           as_aux_lemma =>
            clear HC152;(try clear c1);(try clear p1);(try clear q1);(try clear hx1);(try clear p2);(try clear c6);(try clear p6);(try clear c8);(try clear c9);(try clear c10);(try clear c11);(try clear c12);(try clear c13);(try clear p13);(try clear q13);(try clear hx13);(try clear hf13);(try clear c14);(try clear c15);(try clear p15);(try clear q15);(try clear hx15);(try clear p64);(try clear c67);(try clear c82);(try clear c82b0);(try clear c83);(try clear c83b0);(try clear c86);(try clear c87);(try clear c88);(try clear c92);(try clear c92b0);(try clear c93);(try clear c94);(try clear c95);(try clear c98);(try clear c99);(try clear c100);(try clear c103);(try clear c103b0);(try clear c105);(try clear c105b0);(try clear c106);(try clear c107);(try clear c108);(try clear c111);(try clear c111b0);(try clear c111b1);(try clear c112);(try clear c113);(try clear c114);(try clear c115);(try clear c118);(try clear c119);(try clear c120);(try clear c123);(try clear c124);(try clear c127);(try clear c128);(try clear c129);(try clear c132);(try clear c133);(try clear c134);(try clear c134b0);(try clear c135);(try clear c135b0);(try clear c136);(try clear c136b0);(try clear c137);(try clear c137b0);(try clear p138);(try clear q138);(try clear hx138);(try clear hf138);(try clear c139);(try clear c140);(try clear c141);(try clear c146);(try clear c147);(try clear c148);(try clear p150);(try clear q150);(try clear hx150);(try clear p152);(try clear q152);(try clear hx152);(try clear c154);(try clear c154b0);(try clear c154b1);(try clear c155);(try clear c155b0);(try clear p155);(try clear q155);(try clear hx155);(try clear c156);(try clear c157);(try clear c158);(try clear hcz101_0);(try clear hcz101_1);(try clear hcz109_0);(try clear hcz109_1);(try clear hcz116_0);(try clear hcz116_1);(try clear hcz121_0);(try clear hcz121_1);(try clear hcz125_0);(try clear hcz125_1);(try clear hcz130_0);(try clear hcz130_1);(try clear hcz142_0);(try clear hcz142_1);(try clear hcz149_0);(try clear hcz149_1);(try clear hcz159_0);(try clear hcz159_1);(try clear hcz89_0);(try clear hcz89_1);(try clear hcz96_0);(try clear hcz96_1);(try clear hfz101_0);(try clear hfz101_1);(try clear hfz109_0);(try clear hfz109_1);(try clear hfz116_0);(try clear hfz116_1);(try clear hfz121_0);(try clear hfz121_1);(try clear hfz125_0);(try clear hfz125_1);(try clear hfz130_0);(try clear hfz130_1);(try clear hfz142_0);(try clear hfz142_1);(try clear hfz149_0);(try clear hfz149_1);(try clear hfz159_0);(try clear hfz159_1);(try clear hfz89_0);(try clear hfz89_1);(try clear hfz96_0);(try clear hfz96_1);(try clear hx138_0);(try clear hx150_0);(try clear hx152_0);(try clear hx155_0);(try clear p1);(try clear p138);(try clear p15);(try clear p150);(try clear p152);(try clear p155);(try clear p2);(try clear q1);(try clear q138);(try clear q15);(try clear q150);(try clear q152);(try clear q155);obtain ⟨kq, x173_151, rfl, HA, HJ151, HO_8, HO_121000, HO_121001, HO_129000, HO_129001, HO_137000, HO_137001, HO_149000, HO_149001, BK120, BK128, BK136, BK148, HB⟩ := hcut
            cases kq with
            | zero => exact absurd HA.out (by simp [epitomelaw09_ComposeGaps.j5])
            | succ kj151 =>
             have H := HA.out;clear HA;simp only [epitomelaw09_ComposeGaps.j5] at H
             by_cases c161 : x173_151 = true
             ·subst c161
              have H1 : (some false) = some r := by rw [if_pos rfl] at H; exact H
              clear H;have H := H1
              clear H1;exact Bool.noConfusion ((Option.some.inj H).trans hr_.out)
             replace c161 := Bool.eq_false_iff.mpr c161
             subst c161
             have H1 : (if 0 ≤ t157 then (if t157 < (x149000_4.length : Int) then (if 0 ≤ x19_4 then (if x19_4 < (x129000_4.length : Int) then (if (rdOf ByteArray.empty x149000_4 t157).size + (rdOf ByteArray.empty x129000_4 x19_4).size ≤ 9223372036854775807 then ((some (x149000_4.set (t157 : Int).toNat ((rdOf ByteArray.empty x149000_4 t157) ++ (rdOf ByteArray.empty x129000_4 x19_4)) : List ByteArray)).bind fun y161 => (if x23_4 < t151 then (epitomelaw09_ComposeGaps.j6 kj151 t102 x19_4 x20_2 t151 x22_84 x23_4 (decide (x19_4 < (x129001_2.length : Int))) x121000_4 x121001_2 x129000_4 x129001_2 x137000_4 x137001_2 y161 x149001_2) else (epitomelaw09_ComposeGaps.j6 kj151 t102 x19_4 x20_2 t151 x22_84 x23_4 false x121000_4 x121001_2 x129000_4 x129001_2 x137000_4 x137001_2 y161 x149001_2))) else (none)) else (none)) else (none)) else (none)) else (none)) = some r := by rw [if_neg (show ¬ (false = true) by decide)] at H; exact H
             clear H;have H := H1
             clear H1;by_cases c162 : 0 ≤ t157
             rotate_left
             ·rw [if_neg c162] at H;exact absurd H (by simp)
             rw [if_pos c162] at H;have c162b0 : decide (0 ≤ t157) = true := decide_eq_true c162
             clear c162;by_cases c163 : t157 < (x149000_4.length : Int)
             rotate_left
             ·rw [if_neg c163] at H;exact absurd H (by simp)
             rw [if_pos c163] at H;have c163b0 : decide (t157 < (x149000_4.length : Int)) = true := decide_eq_true c163
             clear c163;by_cases c164 : 0 ≤ x19_4
             rotate_left
             ·rw [if_neg c164] at H;exact absurd H (by simp)
             rw [if_pos c164] at H;have c164b0 : decide (0 ≤ x19_4) = true := decide_eq_true c164
             clear c164;by_cases c165 : x19_4 < (x129000_4.length : Int)
             rotate_left
             ·rw [if_neg c165] at H;exact absurd H (by simp)
             rw [if_pos c165] at H;have c165b0 : decide (x19_4 < (x129000_4.length : Int)) = true := decide_eq_true c165
             clear c165;by_cases c166 : (rdOf ByteArray.empty x149000_4 t157).size + (rdOf ByteArray.empty x129000_4 x19_4).size ≤ 9223372036854775807
             rotate_left
             ·rw [if_neg c166] at H;exact absurd H (by simp)
             rw [if_pos c166] at H;have c166b0 := eq_true c166
             have c166b1 : decide ((rdOf ByteArray.empty x149000_4 t157).size + (rdOf ByteArray.empty x129000_4 x19_4).size ≤ 9223372036854775807) = true := decide_eq_true c166
             try have c166b2 : (9223372036854775807 < (rdOf ByteArray.empty x149000_4 t157).size + (rdOf ByteArray.empty x129000_4 x19_4).size) = False := eq_false (Nat.not_lt.2 c166)
             obtain ⟨y161, hy161⟩ : ∃ y_ : List ByteArray, y_ = (x149000_4.set (t157 : Int).toNat ((rdOf ByteArray.empty x149000_4 t157) ++ (rdOf ByteArray.empty x129000_4 x19_4))) := ⟨_, rfl⟩
             replace H : (if x23_4 < t151 then (epitomelaw09_ComposeGaps.j6 kj151 t102 x19_4 x20_2 t151 x22_84 x23_4 (decide (x19_4 < (x129001_2.length : Int))) x121000_4 x121001_2 x129000_4 x129001_2 x137000_4 x137001_2 y161 x149001_2) else (epitomelaw09_ComposeGaps.j6 kj151 t102 x19_4 x20_2 t151 x22_84 x23_4 false x121000_4 x121001_2 x129000_4 x129001_2 x137000_4 x137001_2 y161 x149001_2)) = some r := by first | (rw [hy161]; with_reducible exact H) | (have H2_ := (Option.bind_some _ _).symm.trans H; rw [hy161]; with_reducible exact H2_) | (have H2_ := (Option.bind_some _ _).symm.trans H; with_reducible exact H2_) | with_reducible exact H | (rw [hy161]; exact H) | exact H
             have Ny161 := Am hy161;clear hy161;have HC168 := Am H;clear H;try go_wp2
             replace HO_8 := Am (R_drew HO_8.out);replace HO_121000 := Am (Kd.V_drew HO_121000.out);replace HO_121001 := Am (Kd.V_drew HO_121001.out);replace HO_129000 := Am (Kd.V_drew HO_129000.out);replace HO_129001 := Am (Kd.V_drew HO_129001.out);replace HO_137000 := Am (Kd.V_drew HO_137000.out);replace HO_137001 := Am (Kd.V_drew HO_137001.out);replace HO_149000 := Am (R_drew HO_149000.out);replace HO_149001 := Am (R_drew HO_149001.out);replace BK120 := Am (blk_drew BK120.out);replace BK128 := Am (blk_drew BK128.out);replace BK136 := Am (blk_drew BK136.out);replace BK148 := Am (blk_drew BK148.out);replace HB := Am (below_drew1 HB.out);obtain ⟨Ao170, co170, eo170⟩ := R_slice HO_149000.out
             (first | subst eo170 | (injection eo170 with f1_ f2_ f3_; have f4_ := f1_.symm; have f5_ := f3_.symm; clear f1_ f2_ f3_; subst f4_; subst f5_))
             have p159 : 0 ≤ (t157 : Int) := of_decide_eq_true (by assumption)
             have q159 : t157 < (x149000_4.length : Int) := of_decide_eq_true (by assumption)
             obtain ⟨ad159, e159, hx159_0⟩ := Kd.at_string (R_reads' HO_149000.out).2.2 t157 p159 q159
             cases e159
             replace p159 := eq_true p159;replace q159 := eq_true q159;obtain ⟨Ao171, co171, eo171⟩ := Kd.V_slice HO_129000.out
             (first | subst eo171 | (injection eo171 with f1_ f2_ f3_; have f4_ := f1_.symm; have f5_ := f3_.symm; clear f1_ f2_ f3_; subst f4_; subst f5_))
             have p160 : 0 ≤ (x19_4 : Int) := of_decide_eq_true (by assumption)
             have q160 : x19_4 < (x129000_4.length : Int) := of_decide_eq_true (by assumption)
             obtain ⟨ad160, e160, hx160_0⟩ := Kd.at_string (Kd.V_reads' HO_129000.out).2.2 x19_4 p160 q160
             cases e160
             replace p160 := eq_true p160;replace q160 := eq_true q160;have p167 : 0 ≤ (t157 : Int) := of_decide_eq_true (by assumption)
             have q167 : (t157 : Int) < ((x149000_4.length : Int) : Int) := of_decide_eq_true (by assumption)
             obtain ⟨go167, co167, eo167, gb167, gl167, cl167, HG167⟩ := R_form HO_149000.out (by omega)
             (first | cases eo167 | (injection eo167 with ea_ en_ ec_; (first | subst ea_ | (injection ea_ with ea_; subst ea_)); subst ec_; clear en_))
             have GB167 := Am gb167;have GG167 := Am HG167;clear gb167 gl167 HG167;(first | simp only [add_plain] at hx159_0 | skip)
             obtain ⟨hx167_0, hf167_0⟩ := R_celln (⟨#[]⟩ : ByteArray) HO_149000.out (t157 : Int) p167 q167
             replace p167 := eq_true p167;replace q167 := eq_true q167;have HP172 := R_putn HO_149000.out (t157 : Int) ((rdOf ByteArray.empty x149000_4 t157) ++ (rdOf ByteArray.empty x129000_4 x19_4))
             rw [← Ny161.out] at HP172
             have HQ172 := Am HP172;clear HP172;refine start_ (n := 16) (S := fun w' => w'.cell? ⟨gb148, 0, none⟩ = some (.slice (some ⟨go167, 0, none⟩) x149000_4.length co170) ∧ w'.cell? ⟨gb148, 1, none⟩ = some (u149001) ∧ w'.cell? ⟨gb128, 0, none⟩ = some (.slice (some ad160) x129000_4.length co171) ∧ w'.cell? ⟨gb128, 1, none⟩ = some (u129001) ∧ w'.cell? ⟨go167, (t157).toNat, none⟩ = some (.string (rdOf ByteArray.empty x149000_4 t157)) ∧ w'.cell? (ad160.add (x19_4).toNat) = some (.string (rdOf ByteArray.empty x129000_4 x19_4))) (ds := [15]) #[zu, zu, zu, zu, zu, zu, zu, zu, zu, zu, zu, zu, zu, zu, zu, zu] (by kernel_rfl) rfl rfl ⟨(blk_cell BK148.out 0).trans rfl, (blk_cell BK148.out 1).trans rfl, (blk_cell BK128.out 0).trans rfl, (blk_cell BK128.out 1).trans rfl, hx159_0, hx160_0⟩ (fun hHeld => ?_); refine with_tabW epitomelaw09_ComposeGaps.tab24 epitomelaw09_ComposeGaps.bits24 (fun HT_ HW_ => ?_)
             generalize wc.drew = w169 at HO_8 HO_121000 HO_121001 HO_129000 HO_129001 HO_137000 HO_137001 HO_149000 HO_149001 BK120 BK128 BK136 BK148 HB GG167 HQ172 hf167_0 hx159_0 hx160_0 hx167_0 hHeld ⊢
             refine pure_ (i := 0) (N := some 174) (v := ?_) (a' := ?_) #[zt, zu, zu, zu, zu, zu, zu, zu, zu, zu, zu, zu, zu, zu, zu, zu] rfl rfl (any_of HT_.out (by kernel_rfl)) (fun _ _ _ h => h) (Or.inl ⟨by rfl, ?_⟩) ?_ ?_
             rotate_left
             ·intro w'
              go_simp;with_reducible rfl
             rotate_left
             ·simp only [Act.put, zS, i64_w, i32_w]
              rfl
             refine pure_ (i := 2) (N := some 176) (v := ?_) (a' := ?_) #[zt, zu, zt, zu, zu, zu, zu, zu, zu, zu, zu, zu, zu, zu, zu, zu] rfl rfl (any_of HT_.out (by kernel_rfl)) (fun _ _ _ h => h) (Or.inl ⟨by rfl, ?_⟩) ?_ ?_
             rotate_left
             ·intro w'
              go_simp;with_reducible rfl
             rotate_left
             ·simp only [Act.put, zS, i64_w, i32_w]
              rfl
             refine pure_ (i := 3) (N := some 177) (v := ?_) (a' := ?_) #[zt, zu, zt, zt, zu, zu, zu, zu, zu, zu, zu, zu, zu, zu, zu, zu] rfl rfl (any_of HT_.out (by kernel_rfl)) (fun _ _ _ h => h) (Or.inl ⟨by rfl, ?_⟩) ?_ ?_
             rotate_left
             ·intro w'
              go_simp;with_reducible rfl
             rotate_left
             ·simp only [Act.put, zS, i64_w, i32_w]
              rfl
             refine pure_ (i := 5) (N := some 179) (v := ?_) (a' := ?_) #[zt, zu, zt, zt, zu, zt, zu, zu, zu, zu, zu, zu, zu, zu, zu, zu] rfl rfl (any_of HT_.out (by kernel_rfl)) (fun _ _ _ h => h) (Or.inl ⟨by rfl, ?_⟩) ?_ ?_
             rotate_left
             ·intro w'
              go_simp;with_reducible rfl
             rotate_left
             ·simp only [Act.put, zS, i64_w, i32_w]
              rfl
             refine pure_ (i := 8) (N := some 182) (v := ?_) (a' := ?_) #[zt, zu, zt, zt, zu, zt, zu, zu, zt, zu, zu, zu, zu, zu, zu, zu] rfl rfl (any_of HT_.out (by kernel_rfl)) (fun _ _ _ h => h) (Or.inl ⟨by rfl, ?_⟩) ?_ ?_
             rotate_left
             ·intro w'
              go_simp;with_reducible rfl
             rotate_left
             ·simp only [Act.put, zS, i64_w, i32_w]
              rfl
             refine pure_ (i := 10) (N := some 184) (v := ?_) (a' := ?_) #[zt, zu, zt, zt, zu, zt, zu, zu, zt, zu, zt, zu, zu, zu, zu, zu] rfl rfl (any_of HT_.out (by kernel_rfl)) (fun _ _ _ h => h) (Or.inl ⟨by rfl, ?_⟩) ?_ ?_
             rotate_left
             ·intro w'
              go_simp;with_reducible rfl
             rotate_left
             ·simp only [Act.put, zS, i64_w, i32_w]
              rfl
             refine take_ (i := 1) (N := some 175) (v := ?_) (a' := ?_) #[zt, zt, zt, zt, zu, zt, zu, zu, zt, zu, zt, zu, zu, zu, zu, zu] rfl rfl (take_ofW HT_.out HW_.out (by kernel_rfl)) (fun _ _ _ h => h) (Or.inl ⟨by rfl, ?_⟩) hHeld ?_ ?_
             rotate_left
             ·rintro w' ⟨s0, s1, s2, s3, s4, s5⟩
              go_simp;with_reducible rfl
             rotate_left
             ·simp only [Act.put, zS, i64_w, i32_w]
              rfl
             refine take_ (i := 4) (N := some 178) (v := ?_) (a' := ?_) #[zt, zt, zt, zt, zt, zt, zu, zu, zt, zu, zt, zu, zu, zu, zu, zu] rfl rfl (take_ofW HT_.out HW_.out (by kernel_rfl)) (fun _ _ _ h => h) (Or.inl ⟨by rfl, ?_⟩) hHeld ?_ ?_
             rotate_left
             ·rintro w' ⟨s0, s1, s2, s3, s4, s5⟩
              go_simp;with_reducible rfl
             rotate_left
             ·simp only [Act.put, zS, i64_w, i32_w]
              rfl
             refine pure_ (i := 6) (N := some 180) (v := ?_) (a' := ?_) #[zt, zt, zt, zt, zt, zt, zt, zu, zt, zu, zt, zu, zu, zu, zu, zu] rfl rfl (any_of HT_.out (by kernel_rfl)) (fun _ _ _ h => h) (Or.inl ⟨by rfl, ?_⟩) ?_ ?_
             rotate_left
             ·intro w'
              go_simp;with_reducible rfl
             rotate_left
             ·simp only [Act.put, zS, i64_w, i32_w]
              rfl
             refine take_ (i := 7) (N := some 181) (v := ?_) (a' := ?_) #[zt, zt, zt, zt, zt, zt, zt, zt, zt, zu, zt, zu, zu, zu, zu, zu] rfl rfl (take_ofW HT_.out HW_.out (by kernel_rfl)) (fun _ _ _ h => h) (Or.inl ⟨by rfl, ?_⟩) hHeld ?_ ?_
             rotate_left
             ·rintro w' ⟨s0, s1, s2, s3, s4, s5⟩
              go_simp;with_reducible rfl
             rotate_left
             ·simp only [Act.put, zS, i64_w, i32_w]
              rfl
             refine take_ (i := 9) (N := some 183) (v := ?_) (a' := ?_) #[zt, zt, zt, zt, zt, zt, zt, zt, zt, zt, zt, zu, zu, zu, zu, zu] rfl rfl (take_ofW HT_.out HW_.out (by kernel_rfl)) (fun _ _ _ h => h) (Or.inl ⟨by rfl, ?_⟩) hHeld ?_ ?_
             rotate_left
             ·rintro w' ⟨s0, s1, s2, s3, s4, s5⟩
              go_simp;with_reducible rfl
             rotate_left
             ·simp only [Act.put, zS, i64_w, i32_w]
              rfl
             refine pure_ (i := 11) (N := some 185) (v := ?_) (a' := ?_) #[zt, zt, zt, zt, zt, zt, zt, zt, zt, zt, zt, zt, zu, zu, zu, zu] rfl rfl (any_of HT_.out (by kernel_rfl)) (fun _ _ _ h => h) (Or.inl ⟨by rfl, ?_⟩) ?_ ?_
             rotate_left
             ·intro w'
              go_simp;with_reducible rfl
             rotate_left
             ·simp only [Act.put, zS, i64_w, i32_w]
              rfl
             refine take_ (i := 12) (N := some 186) (v := ?_) (a' := ?_) #[zt, zt, zt, zt, zt, zt, zt, zt, zt, zt, zt, zt, zt, zu, zu, zu] rfl rfl (take_ofW HT_.out HW_.out (by kernel_rfl)) (fun _ _ _ h => h) (Or.inl ⟨by rfl, ?_⟩) hHeld ?_ ?_
             rotate_left
             ·rintro w' ⟨s0, s1, s2, s3, s4, s5⟩
              go_simp;with_reducible rfl
             rotate_left
             ·simp only [Act.put, zS, i64_w, i32_w]
              rfl
             refine pure_ (i := 13) (N := some 187) (v := ?_) (a' := ?_) #[zt, zt, zt, zt, zt, zt, zt, zt, zt, zt, zt, zt, zt, zt, zu, zu] rfl rfl (any_of HT_.out (by kernel_rfl)) (fun _ _ _ h => h) (Or.inl ⟨by rfl, ?_⟩) ?_ ?_
             rotate_left
             ·intro w'
              go_simp;with_reducible rfl
             rotate_left
             ·simp only [Act.put, zS, i64_w, i32_w]
              rfl
             refine pure_ (i := 14) (N := some 188) (v := ?_) (a' := ?_) #[zt, zt, zt, zt, zt, zt, zt, zt, zt, zt, zt, zt, zt, zt, zt, zu] rfl rfl (any_of HT_.out (by kernel_rfl)) (fun _ _ _ h => h) (Or.inl ⟨by rfl, ?_⟩) ?_ ?_
             rotate_left
             ·intro w'
              go_simp;with_reducible rfl
             rotate_left
             ·simp only [Act.put, zS, i64_w, i32_w]
              rfl
             refine last_ (i := 15) (N := none) #[zt, zt, zt, zt, zt, zt, zt, zt, zt, zt, zt, zt, zt, zt, zt, zt] rfl rfl (one_of HT_.out (by kernel_rfl)) (by decide) (fun K hK => ?_)
             refine skip_ (w1 := ?_) (by rfl) rfl ?_ ?_
             rotate_left
             ·go_simp;rfl
             refine hK.out _ _ ?_
             clear hK K;refine done_ (done_of HT_.out (by kernel_rfl)) ?_
             go_upto_region 25 with (fail)
             go_cut [198] (fun v198 wc => ∃ (kq : Nat) (x198_167 : Bool), v198 = .bool x198_167 ∧ Aside0 (epitomelaw09_ComposeGaps.j6 kq t102 x19_4 x20_2 t151 x22_84 x23_4 x198_167 x121000_4 x121001_2 x129000_4 x129001_2 x137000_4 x137001_2 y161 x149001_2 = some r) ∧ Aside0 (kq ≤ kj151) ∧ Aside0 (Kd.R k55 55 wc w.heap.size (fun _ => True) (.slice Ao15 t102.length co15) t102) ∧ Aside0 (Kd.V Kd.string 9 wc w.heap.size (fun k_ => some k_ ≠ ((.slice Ao15 t102.length co15) : Value).ownBlock ∧ some k_ ≠ ((.slice (some ⟨go167, 0, none⟩) x149000_4.length co170) : Value).ownBlock ∧ some k_ ≠ (u149001 : Value).ownBlock ∧ k_ ≠ gb120 ∧ k_ ≠ gb128 ∧ k_ ≠ gb136 ∧ k_ ≠ gb148) u121000 x121000_4) ∧ Aside0 (Kd.V Kd.bool 4 wc w.heap.size (fun k_ => some k_ ≠ ((.slice Ao15 t102.length co15) : Value).ownBlock ∧ some k_ ≠ ((.slice (some ⟨go167, 0, none⟩) x149000_4.length co170) : Value).ownBlock ∧ some k_ ≠ (u149001 : Value).ownBlock ∧ k_ ≠ gb120 ∧ k_ ≠ gb128 ∧ k_ ≠ gb136 ∧ k_ ≠ gb148) u121001 x121001_2) ∧ Aside0 (Kd.V Kd.string 9 wc w.heap.size (fun k_ => some k_ ≠ ((.slice Ao15 t102.length co15) : Value).ownBlock ∧ some k_ ≠ ((.slice (some ⟨go167, 0, none⟩) x149000_4.length co170) : Value).ownBlock ∧ some k_ ≠ (u149001 : Value).ownBlock ∧ k_ ≠ gb120 ∧ k_ ≠ gb128 ∧ k_ ≠ gb136 ∧ k_ ≠ gb148) (.slice (some ad160) x129000_4.length co171) x129000_4) ∧ Aside0 (Kd.V Kd.bool 4 wc w.heap.size (fun k_ => some k_ ≠ ((.slice Ao15 t102.length co15) : Value).ownBlock ∧ some k_ ≠ ((.slice (some ⟨go167, 0, none⟩) x149000_4.length co170) : Value).ownBlock ∧ some k_ ≠ (u149001 : Value).ownBlock ∧ k_ ≠ gb120 ∧ k_ ≠ gb128 ∧ k_ ≠ gb136 ∧ k_ ≠ gb148) u129001 x129001_2) ∧ Aside0 (Kd.V Kd.string 9 wc w.heap.size (fun k_ => some k_ ≠ ((.slice Ao15 t102.length co15) : Value).ownBlock ∧ some k_ ≠ ((.slice (some ⟨go167, 0, none⟩) x149000_4.length co170) : Value).ownBlock ∧ some k_ ≠ (u149001 : Value).ownBlock ∧ k_ ≠ gb120 ∧ k_ ≠ gb128 ∧ k_ ≠ gb136 ∧ k_ ≠ gb148) u137000 x137000_4) ∧ Aside0 (Kd.V Kd.bool 4 wc w.heap.size (fun k_ => some k_ ≠ ((.slice Ao15 t102.length co15) : Value).ownBlock ∧ some k_ ≠ ((.slice (some ⟨go167, 0, none⟩) x149000_4.length co170) : Value).ownBlock ∧ some k_ ≠ (u149001 : Value).ownBlock ∧ k_ ≠ gb120 ∧ k_ ≠ gb128 ∧ k_ ≠ gb136 ∧ k_ ≠ gb148) u137001 x137001_2) ∧ Aside0 (Kd.R Kd.string 9 wc w.heap.size (fun _ => True) (.slice (some ⟨go167, 0, none⟩) x149000_4.length co170) y161) ∧ Aside0 (Kd.R Kd.bool 4 wc w.heap.size (fun _ => True) u149001 x149001_2) ∧ Aside0 (wc.heap[gb120]? = some (.cells #[u121000, u121001] 32 (0, 0))) ∧ Aside0 (wc.heap[gb128]? = some (.cells #[(.slice (some ad160) x129000_4.length co171), u129001] 32 (0, 0))) ∧ Aside0 (wc.heap[gb136]? = some (.cells #[u137000, u137001] 32 (0, 0))) ∧ Aside0 (wc.heap[gb148]? = some (.cells #[(.slice (some ⟨go167, 0, none⟩) x149000_4.length co170), u149001] 32 (0, 0))) ∧ Aside0 (Below w.heap.size w wc))
             case first =>
              have H := HC168.out;clear HC168;by_cases c173 : x23_4 < t151
              rotate_left
              ·rw [if_neg c173] at H;have c173b0 : decide (x23_4 < t151) = false := decide_eq_false c173
               clear c173;(first | rw [c173b0] | (simp only [i64_w, i32_w]; rw [c173b0]) | skip)
               have H' := Am H
               clear H;go_wp2
               go_meet
               case rel => exact ⟨_, (false), zG, H', ⟨by have := HJ11.out; have := HK2.out; have := HJ84.out; have := HK4.out; have := HJ103.out; have := HJ151.out; first | omega | exact Nat.le_refl _⟩, ⟨by (with_reducible repeat (first | apply zA.a | apply zA.n | apply zA.d)); exact R_mono (R_far (p := ⟨go167, (t157 : Int).toNat, none⟩) (R_types HO_8.out GG167.out (by decide)) (fun _ hk => hk.2) (.string ((rdOf ByteArray.empty x149000_4 t157) ++ (rdOf ByteArray.empty x129000_4 x19_4)))) (fun _ hk => trivial)⟩, ⟨zfg HO_121000 go167 (t157 : Int) (.string ((rdOf ByteArray.empty x149000_4 t157) ++ (rdOf ByteArray.empty x129000_4 x19_4)))⟩, ⟨zfg HO_121001 go167 (t157 : Int) (.string ((rdOf ByteArray.empty x149000_4 t157) ++ (rdOf ByteArray.empty x129000_4 x19_4)))⟩, ⟨zfg HO_129000 go167 (t157 : Int) (.string ((rdOf ByteArray.empty x149000_4 t157) ++ (rdOf ByteArray.empty x129000_4 x19_4)))⟩, ⟨zfg HO_129001 go167 (t157 : Int) (.string ((rdOf ByteArray.empty x149000_4 t157) ++ (rdOf ByteArray.empty x129000_4 x19_4)))⟩, ⟨zfg HO_137000 go167 (t157 : Int) (.string ((rdOf ByteArray.empty x149000_4 t157) ++ (rdOf ByteArray.empty x129000_4 x19_4)))⟩, ⟨zfg HO_137001 go167 (t157 : Int) (.string ((rdOf ByteArray.empty x149000_4 t157) ++ (rdOf ByteArray.empty x129000_4 x19_4)))⟩, ⟨(zR HQ172)⟩, ⟨by (with_reducible repeat (first | apply zA.a | apply zA.n | apply zA.d)); exact R_mono (R_far (p := ⟨go167, (t157 : Int).toNat, none⟩) (R_types HO_149001.out GG167.out (by decide)) (fun _ hk => hk.2) (.string ((rdOf ByteArray.empty x149000_4 t157) ++ (rdOf ByteArray.empty x129000_4 x19_4)))) (fun _ hk => trivial)⟩, ⟨by (with_reducible repeat (first | refine zA.f ?_ _ | refine zA.g ?_ | refine zA.h ?_ _)); refine blk_far ?_ (by have h_ := R_ne HO_149000.out BK120.out (by decide); intro e_; exact h_ (by rw [e_]; rfl)) _; (with_reducible repeat (first | refine zA.f ?_ _ | refine zA.g ?_ | refine zA.h ?_ _)); exact BK120.out⟩, ⟨by (with_reducible repeat (first | refine zA.f ?_ _ | refine zA.g ?_ | refine zA.h ?_ _)); refine blk_far ?_ (by have h_ := R_ne HO_149000.out BK128.out (by decide); intro e_; exact h_ (by rw [e_]; rfl)) _; (with_reducible repeat (first | refine zA.f ?_ _ | refine zA.g ?_ | refine zA.h ?_ _)); exact BK128.out⟩, ⟨by (with_reducible repeat (first | refine zA.f ?_ _ | refine zA.g ?_ | refine zA.h ?_ _)); refine blk_far ?_ (by have h_ := R_ne HO_149000.out BK136.out (by decide); intro e_; exact h_ (by rw [e_]; rfl)) _; (with_reducible repeat (first | refine zA.f ?_ _ | refine zA.g ?_ | refine zA.h ?_ _)); exact BK136.out⟩, ⟨by (with_reducible repeat (first | refine zA.f ?_ _ | refine zA.g ?_ | refine zA.h ?_ _)); refine blk_far ?_ (by have h_ := R_ne HO_149000.out BK148.out (by decide); intro e_; exact h_ (by rw [e_]; rfl)) _; (with_reducible repeat (first | refine zA.f ?_ _ | refine zA.g ?_ | refine zA.h ?_ _)); exact BK148.out⟩, ⟨by repeat (first | (with_reducible first | exact HB.out | apply zA.b | apply zA.w | apply zA.e | refine zA.s ?_ GB167.out | refine zA.s ?_ GE120.out | refine zA.s ?_ GE128.out | refine zA.s ?_ GE136.out | refine zA.s ?_ GE148.out) | exact HB.out)⟩⟩
              rw [if_pos c173] at H;have c173b0 : decide (x23_4 < t151) = true := decide_eq_true c173
              clear c173;(first | rw [c173b0] | (simp only [i64_w, i32_w]; rw [c173b0]) | skip)
              have H' := Am H
              clear H;have hnb174 := NB128_120.out;have hnc174 := NB120_128.out;have hnb175 := NB128_136.out;have hnc175 := NB136_128.out;have hnb176 := NB128_148.out;have hnc176 := NB148_128.out;have hcz177_0 : w169.cell? ⟨gb128, 0, none⟩ = some (.slice (some ad160) x129000_4.length co171) := (blk_cell BK128.out 0).trans rfl
              have hnbz177 : gb128 ≠ go167 := by first | exact (fun e_ => R_ne HO_149000.out BK128.out (by decide) (by rw [e_]; rfl)) | (intro e_; obtain ⟨c_, hc_⟩ := GG167.out; rw [← e_, BK128.out] at hc_; cases hc_)
              have hncz177 : go167 ≠ gb128 := fun e_ => hnbz177 e_.symm
              have hcz177_1 : w169.cell? ⟨gb128, 1, none⟩ = some (u129001) := (blk_cell BK128.out 1).trans rfl
              have hfz177_0 := blk_frozen BK128.out 0;have hfz177_1 := blk_frozen BK128.out 1;obtain ⟨Ao178, co178, eo178⟩ := Kd.V_slice HO_129001.out
              subst eo178
              go_wp2
              go_meet
              case rel => exact ⟨_, (decide (x19_4 < (x129001_2.length : Int))), zG, H', ⟨by have := HJ11.out; have := HK2.out; have := HJ84.out; have := HK4.out; have := HJ103.out; have := HJ151.out; first | omega | exact Nat.le_refl _⟩, ⟨by (with_reducible repeat (first | apply zA.a | apply zA.n | apply zA.d)); exact R_mono (R_far (p := ⟨go167, (t157 : Int).toNat, none⟩) (R_types HO_8.out GG167.out (by decide)) (fun _ hk => hk.2) (.string ((rdOf ByteArray.empty x149000_4 t157) ++ (rdOf ByteArray.empty x129000_4 x19_4)))) (fun _ hk => trivial)⟩, ⟨zfg HO_121000 go167 (t157 : Int) (.string ((rdOf ByteArray.empty x149000_4 t157) ++ (rdOf ByteArray.empty x129000_4 x19_4)))⟩, ⟨zfg HO_121001 go167 (t157 : Int) (.string ((rdOf ByteArray.empty x149000_4 t157) ++ (rdOf ByteArray.empty x129000_4 x19_4)))⟩, ⟨zfg HO_129000 go167 (t157 : Int) (.string ((rdOf ByteArray.empty x149000_4 t157) ++ (rdOf ByteArray.empty x129000_4 x19_4)))⟩, ⟨zfg HO_129001 go167 (t157 : Int) (.string ((rdOf ByteArray.empty x149000_4 t157) ++ (rdOf ByteArray.empty x129000_4 x19_4)))⟩, ⟨zfg HO_137000 go167 (t157 : Int) (.string ((rdOf ByteArray.empty x149000_4 t157) ++ (rdOf ByteArray.empty x129000_4 x19_4)))⟩, ⟨zfg HO_137001 go167 (t157 : Int) (.string ((rdOf ByteArray.empty x149000_4 t157) ++ (rdOf ByteArray.empty x129000_4 x19_4)))⟩, ⟨(zR HQ172)⟩, ⟨by (with_reducible repeat (first | apply zA.a | apply zA.n | apply zA.d)); exact R_mono (R_far (p := ⟨go167, (t157 : Int).toNat, none⟩) (R_types HO_149001.out GG167.out (by decide)) (fun _ hk => hk.2) (.string ((rdOf ByteArray.empty x149000_4 t157) ++ (rdOf ByteArray.empty x129000_4 x19_4)))) (fun _ hk => trivial)⟩, ⟨by (with_reducible repeat (first | refine zA.f ?_ _ | refine zA.g ?_ | refine zA.h ?_ _)); refine blk_far ?_ (by have h_ := R_ne HO_149000.out BK120.out (by decide); intro e_; exact h_ (by rw [e_]; rfl)) _; (with_reducible repeat (first | refine zA.f ?_ _ | refine zA.g ?_ | refine zA.h ?_ _)); exact BK120.out⟩, ⟨by (with_reducible repeat (first | refine zA.f ?_ _ | refine zA.g ?_ | refine zA.h ?_ _)); refine blk_far ?_ (by have h_ := R_ne HO_149000.out BK128.out (by decide); intro e_; exact h_ (by rw [e_]; rfl)) _; (with_reducible repeat (first | refine zA.f ?_ _ | refine zA.g ?_ | refine zA.h ?_ _)); exact BK128.out⟩, ⟨by (with_reducible repeat (first | refine zA.f ?_ _ | refine zA.g ?_ | refine zA.h ?_ _)); refine blk_far ?_ (by have h_ := R_ne HO_149000.out BK136.out (by decide); intro e_; exact h_ (by rw [e_]; rfl)) _; (with_reducible repeat (first | refine zA.f ?_ _ | refine zA.g ?_ | refine zA.h ?_ _)); exact BK136.out⟩, ⟨by (with_reducible repeat (first | refine zA.f ?_ _ | refine zA.g ?_ | refine zA.h ?_ _)); refine blk_far ?_ (by have h_ := R_ne HO_149000.out BK148.out (by decide); intro e_; exact h_ (by rw [e_]; rfl)) _; (with_reducible repeat (first | refine zA.f ?_ _ | refine zA.g ?_ | refine zA.h ?_ _)); exact BK148.out⟩, ⟨by repeat (first | (with_reducible first | exact HB.out | apply zA.b | apply zA.w | apply zA.e | refine zA.s ?_ GB167.out | refine zA.s ?_ GE120.out | refine zA.s ?_ GE128.out | refine zA.s ?_ GE136.out | refine zA.s ?_ GE148.out) | exact HB.out)⟩⟩
             case rest =>
             as_aux_lemma =>
              clear HC168;(try clear c1);(try clear p1);(try clear q1);(try clear hx1);(try clear p2);(try clear c6);(try clear p6);(try clear c8);(try clear c9);(try clear c10);(try clear c11);(try clear c12);(try clear c13);(try clear p13);(try clear q13);(try clear hx13);(try clear hf13);(try clear c14);(try clear c15);(try clear p15);(try clear q15);(try clear hx15);(try clear c16);(try clear p16);(try clear q16);(try clear hx16);(try clear hf16);(try clear c17);(try clear p64);(try clear c67);(try clear c82);(try clear c82b0);(try clear c83);(try clear c83b0);(try clear c86);(try clear c87);(try clear c88);(try clear c92);(try clear c92b0);(try clear c93);(try clear c94);(try clear c95);(try clear c98);(try clear c99);(try clear c100);(try clear c103);(try clear c103b0);(try clear c105);(try clear c105b0);(try clear c106);(try clear c107);(try clear c108);(try clear c111);(try clear c111b0);(try clear c111b1);(try clear c112);(try clear c113);(try clear c114);(try clear c115);(try clear c118);(try clear c119);(try clear c120);(try clear c123);(try clear c124);(try clear c127);(try clear c128);(try clear c129);(try clear c132);(try clear c133);(try clear c134);(try clear c134b0);(try clear c135);(try clear c135b0);(try clear c136);(try clear c136b0);(try clear c137);(try clear c137b0);(try clear p138);(try clear q138);(try clear hx138);(try clear hf138);(try clear c139);(try clear c140);(try clear c141);(try clear c146);(try clear c147);(try clear c148);(try clear p150);(try clear q150);(try clear hx150);(try clear p152);(try clear q152);(try clear hx152);(try clear c154);(try clear c154b0);(try clear c154b1);(try clear c155);(try clear c155b0);(try clear p155);(try clear q155);(try clear hx155);(try clear c156);(try clear c157);(try clear c158);(try clear p159);(try clear q159);(try clear hx159);(try clear p160);(try clear q160);(try clear hx160);(try clear c161);(try clear c162);(try clear c162b0);(try clear c163);(try clear c163b0);(try clear c164);(try clear c164b0);(try clear c165);(try clear c165b0);(try clear c166);(try clear c166b0);(try clear c166b1);(try clear c166b2);(try clear p167);(try clear q167);(try clear hx167);(try clear hf167);(try clear c173);(try clear c173b0);(try clear c174);(try clear c175);(try clear c176);(try clear hcz101_0);(try clear hcz101_1);(try clear hcz109_0);(try clear hcz109_1);(try clear hcz116_0);(try clear hcz116_1);(try clear hcz121_0);(try clear hcz121_1);(try clear hcz125_0);(try clear hcz125_1);(try clear hcz130_0);(try clear hcz130_1);(try clear hcz142_0);(try clear hcz142_1);(try clear hcz149_0);(try clear hcz149_1);(try clear hcz159_0);(try clear hcz159_1);(try clear hcz177_0);(try clear hcz177_1);(try clear hcz89_0);(try clear hcz89_1);(try clear hcz96_0);(try clear hcz96_1);(try clear hfz101_0);(try clear hfz101_1);(try clear hfz109_0);(try clear hfz109_1);(try clear hfz116_0);(try clear hfz116_1);(try clear hfz121_0);(try clear hfz121_1);(try clear hfz125_0);(try clear hfz125_1);(try clear hfz130_0);(try clear hfz130_1);(try clear hfz142_0);(try clear hfz142_1);(try clear hfz149_0);(try clear hfz149_1);(try clear hfz159_0);(try clear hfz159_1);(try clear hfz177_0);(try clear hfz177_1);(try clear hfz89_0);(try clear hfz89_1);(try clear hfz96_0);(try clear hfz96_1);(try clear hx138_0);(try clear hx150_0);(try clear hx152_0);(try clear hx155_0);(try clear hx159_0);(try clear hx160_0);(try clear hx167_0);(try clear p1);(try clear p13);(try clear p138);(try clear p15);(try clear p150);(try clear p152);(try clear p155);(try clear p159);(try clear p160);(try clear p167);(try clear p2);(try clear p6);(try clear p64);(try clear q1);(try clear q13);(try clear q138);(try clear q15);(try clear q150);(try clear q152);(try clear q155);(try clear q159);(try clear q160);(try clear q167);obtain ⟨kq, x198_167, rfl, HA, HJ167, HO_8, HO_121000, HO_121001, HO_129000, HO_129001, HO_137000, HO_137001, HO_149000, HO_149001, BK120, BK128, BK136, BK148, HB⟩ := hcut
              have hl149000_167 := (R_reads' HO_149000.out).1
              rw [hl149000_167] at HO_149000
              (try simp only [hl149000_167])
              (try simp only [hl149000_167] at BK120)
              (try simp only [hl149000_167] at BK128)
              (try simp only [hl149000_167] at BK136)
              (try simp only [hl149000_167] at BK148)
              (try simp only [hl149000_167] at HO_8)
              (try simp only [hl149000_167] at HO_121000)
              (try simp only [hl149000_167] at HO_121001)
              (try simp only [hl149000_167] at HO_129000)
              (try simp only [hl149000_167] at HO_129001)
              (try simp only [hl149000_167] at HO_137000)
              (try simp only [hl149000_167] at HO_137001)
              (try simp only [hl149000_167] at HO_149001)
              cases kq with
              | zero => exact absurd HA.out (by simp [epitomelaw09_ComposeGaps.j6])
              | succ kj167 =>
               have H := HA.out;clear HA;simp only [epitomelaw09_ComposeGaps.j6] at H
               by_cases c179 : x198_167 = true
               rotate_left
               ·replace c179 := Bool.eq_false_iff.mpr c179
                subst c179
                have H1 : (epitomelaw09_ComposeGaps.l1 kj167 t102 x19_4 x20_2 t151 x22_84 (wrap64 (x23_4 + 1)) x121000_4 x121001_2 x129000_4 x129001_2 x137000_4 x137001_2 y161 x149001_2) = some r := by rw [if_neg (show ¬ (false = true) by decide)] at H; exact H
                clear H;have H := H1
                clear H1;have H' := Am H
                clear H;go_wp2
                (try simp only [← hl149000_167])
                go_roundg kj167
                case measure => have := HJ11.out; have := HK2.out; have := HJ84.out; have := HK4.out; have := HJ103.out; have := HJ151.out; have := HJ167.out; omega
                case rel => exact ⟨(x19_4), (wrap64 (x23_4 + 1)), (x121000_4), (x129000_4), (x137000_4), (y161), (u121000), (.slice (some ad160) x129000_4.length co171), (u137000), (.slice (some ⟨go167, 0, none⟩) y161.length co170), zG, zG, H', ⟨by have := HJ11.out; have := HK2.out; have := HJ84.out; have := HK4.out; have := HJ103.out; have := HJ151.out; have := HJ167.out; omega⟩, ⟨by (try simp only [hl149000_167]); (with_reducible repeat (first | apply zA.a | apply zA.n | apply zA.d)); exact HO_8.out⟩, ⟨by (try simp only [hl149000_167]); (with_reducible repeat (first | apply Kd.V_alloc | apply Kd.V_drewN | apply Kd.V_drew)); exact HO_121000.out⟩, ⟨by (try simp only [hl149000_167]); (with_reducible repeat (first | apply Kd.V_alloc | apply Kd.V_drewN | apply Kd.V_drew)); exact HO_121001.out⟩, ⟨by (try simp only [hl149000_167]); (with_reducible repeat (first | apply Kd.V_alloc | apply Kd.V_drewN | apply Kd.V_drew)); exact HO_129000.out⟩, ⟨by (try simp only [hl149000_167]); (with_reducible repeat (first | apply Kd.V_alloc | apply Kd.V_drewN | apply Kd.V_drew)); exact HO_129001.out⟩, ⟨by (try simp only [hl149000_167]); (with_reducible repeat (first | apply Kd.V_alloc | apply Kd.V_drewN | apply Kd.V_drew)); exact HO_137000.out⟩, ⟨by (try simp only [hl149000_167]); (with_reducible repeat (first | apply Kd.V_alloc | apply Kd.V_drewN | apply Kd.V_drew)); exact HO_137001.out⟩, ⟨by (try simp only [hl149000_167]); (with_reducible repeat (first | apply zA.a | apply zA.n | apply zA.d)); exact HO_149000.out⟩, ⟨by (try simp only [hl149000_167]); (with_reducible repeat (first | apply zA.a | apply zA.n | apply zA.d)); exact HO_149001.out⟩, ⟨by (try simp only [hl149000_167]); (with_reducible repeat (first | refine zA.f ?_ _ | refine zA.g ?_ | refine zA.h ?_ _)); exact BK120.out⟩, ⟨by (try simp only [hl149000_167]); (with_reducible repeat (first | refine zA.f ?_ _ | refine zA.g ?_ | refine zA.h ?_ _)); exact BK128.out⟩, ⟨by (try simp only [hl149000_167]); (with_reducible repeat (first | refine zA.f ?_ _ | refine zA.g ?_ | refine zA.h ?_ _)); exact BK136.out⟩, ⟨by (try simp only [hl149000_167]); (with_reducible repeat (first | refine zA.f ?_ _ | refine zA.g ?_ | refine zA.h ?_ _)); exact BK148.out⟩, ⟨(zB HB)⟩⟩
               subst c179
               have H1 : (if 0 ≤ x20_2 then (if x20_2 < (x121000_4.length : Int) then ((points_Cut.f (rdOf ByteArray.empty x121000_4 x20_2) x23_4 (wrap64 (x23_4 + 1))).bind fun bt163 => (if bt163.2 = 0 then (if 0 ≤ x19_4 then (if x19_4 < (x129001_2.length : Int) then (if rdOf false x129001_2 x19_4 = true then (epitomelaw09_ComposeGaps.l1 kj167 t102 (wrap64 (x19_4 + 1)) x20_2 t151 x22_84 (wrap64 (x23_4 + 1)) x121000_4 x121001_2 x129000_4 x129001_2 x137000_4 x137001_2 y161 x149001_2) else (if x20_2 < (y161.length : Int) then (if (rdOf ByteArray.empty y161 x20_2).size + bt163.1.size ≤ 9223372036854775807 then (epitomelaw09_ComposeGaps.l1 kj167 t102 (wrap64 (x19_4 + 1)) x20_2 t151 x22_84 (wrap64 (x23_4 + 1)) x121000_4 x121001_2 x129000_4 x129001_2 x137000_4 x137001_2 (y161.set (x20_2 : Int).toNat ((rdOf ByteArray.empty y161 x20_2) ++ bt163.1)) x149001_2) else (none)) else (none))) else (none)) else (none)) else (some false))) else (none)) else (none)) = some r := by rw [if_pos rfl] at H; exact H
               clear H;have H := H1
               clear H1;by_cases c180 : 0 ≤ x20_2
               rotate_left
               ·rw [if_neg c180] at H;exact absurd H (by simp)
               rw [if_pos c180] at H;have c180b0 : decide (0 ≤ x20_2) = true := decide_eq_true c180
               clear c180;by_cases c181 : x20_2 < (x121000_4.length : Int)
               rotate_left
               ·rw [if_neg c181] at H;exact absurd H (by simp)
               rw [if_pos c181] at H;have c181b0 : decide (x20_2 < (x121000_4.length : Int)) = true := decide_eq_true c181
               clear c181;replace H := Option.bind_eq_some_iff.mp H;obtain ⟨⟨t163, t164⟩, A1820, H⟩ := H;have A182 := Am A1820;clear A1820;by_cases c183 : t164 = 0
               rotate_left
               ·rw [if_neg c183] at H;have c183b0 : (t164 == 0) = false := beq_eq_false_iff_ne.mpr c183
                have c183b1 : (t164 != 0) = true := bne_iff_ne.mpr c183
                exact Bool.noConfusion ((Option.some.inj H).trans hr_.out)
               rw [if_pos c183] at H;have c183b0 : (t164 == 0) = true := beq_iff_eq.mpr c183
               have c183b1 : (t164 != 0) = false := bne_eq_false_iff_eq.mpr c183
               clear c183;by_cases c184 : 0 ≤ x19_4
               rotate_left
               ·rw [if_neg c184] at H;exact absurd H (by simp)
               rw [if_pos c184] at H;have c184b0 : decide (0 ≤ x19_4) = true := decide_eq_true c184
               clear c184;by_cases c185 : x19_4 < (x129001_2.length : Int)
               rotate_left
               ·rw [if_neg c185] at H;exact absurd H (by simp)
               rw [if_pos c185] at H;have c185b0 : decide (x19_4 < (x129001_2.length : Int)) = true := decide_eq_true c185
               clear c185;obtain ⟨bq186, hbq186⟩ : ∃ b_ : Bool, b_ = (rdOf false x129001_2 x19_4) := ⟨_, rfl⟩
               replace H : (if bq186 = true then (epitomelaw09_ComposeGaps.l1 kj167 t102 (wrap64 (x19_4 + 1)) x20_2 t151 x22_84 (wrap64 (x23_4 + 1)) x121000_4 x121001_2 x129000_4 x129001_2 x137000_4 x137001_2 y161 x149001_2) else (if x20_2 < (y161.length : Int) then (if (rdOf ByteArray.empty y161 x20_2).size + t163.size ≤ 9223372036854775807 then (epitomelaw09_ComposeGaps.l1 kj167 t102 (wrap64 (x19_4 + 1)) x20_2 t151 x22_84 (wrap64 (x23_4 + 1)) x121000_4 x121001_2 x129000_4 x129001_2 x137000_4 x137001_2 (y161.set (x20_2 : Int).toNat ((rdOf ByteArray.empty y161 x20_2) ++ t163)) x149001_2) else (none)) else (none))) = some r := by rw [← hbq186] at H; exact H
               have Nbq186 := Am hbq186;clear hbq186;by_cases c187 : bq186 = true
               ·subst c187
                have H1 : (epitomelaw09_ComposeGaps.l1 kj167 t102 (wrap64 (x19_4 + 1)) x20_2 t151 x22_84 (wrap64 (x23_4 + 1)) x121000_4 x121001_2 x129000_4 x129001_2 x137000_4 x137001_2 y161 x149001_2) = some r := by rw [if_pos rfl] at H; exact H
                clear H;have H := H1
                clear H1;have H' := Am H
                clear H;have hnb188 := NB120_128.out;have hnc188 := NB128_120.out;have hnb189 := NB120_136.out;have hnc189 := NB136_120.out;have hnb190 := NB120_148.out;have hnc190 := NB148_120.out;obtain ⟨hcz191_0, hcz191_1, hfz191_0, hfz191_1⟩ := zc2 BK120;obtain ⟨Ao192, co192, eo192⟩ := Kd.V_slice HO_121000.out
                subst eo192
                have p162 : 0 ≤ (x20_2 : Int) := of_decide_eq_true (by assumption)
                have q162 : x20_2 < (x121000_4.length : Int) := of_decide_eq_true (by assumption)
                obtain ⟨ad162, e162, hx162_0⟩ := Kd.at_string (Kd.V_reads' HO_121000.out).2.2 x20_2 p162 q162
                cases e162
                replace p162 := eq_true p162;replace q162 := eq_true q162;go_wp2_with (first | ((with_reducible refine gate_callee (f := 16) rfl ?_); refine goesL_ (some 208) rfl rfl Tryd.func16 (by kernel_rfl) rfl #[.string (rdOf ByteArray.empty x121000_4 x20_2), .int .i64 x23_4, .int .i64 (wrap64 (x23_4 + 1))] rfl zE ?_; (with_reducible refine (points_Cut.calls (rdOf ByteArray.empty x121000_4 x20_2) x23_4 (wrap64 (x23_4 + 1)) t163 t164 _ ?side1 A182.out).mono ?_); (case side1 => exact zg HG HB); rintro e w193 ⟨rfl, hb⟩; refine ⟨_, rfl, ?_⟩; replace HO_8 := Am (R_below (zR HO_8) hb);replace HO_121000 := Am (Kd.V_below (zV HO_121000) hb);replace HO_121001 := Am (Kd.V_below (zV HO_121001) hb);replace HO_129000 := Am (Kd.V_below (zV HO_129000) hb);replace HO_129001 := Am (Kd.V_below (zV HO_129001) hb);replace HO_137000 := Am (Kd.V_below (zV HO_137000) hb);replace HO_137001 := Am (Kd.V_below (zV HO_137001) hb);replace HO_149000 := Am (R_below (zR HO_149000) hb);replace HO_149001 := Am (R_below (zR HO_149001) hb);replace BK120 := Am (zU BK120 hb);replace BK128 := Am (zU BK128 hb);replace BK136 := Am (zU BK136 hb);replace BK148 := Am (zU BK148 hb);replace HB := Am (below_step (zB HB) hb); (try clear hb); have hnb194 := NB128_136.out; have hnc194 := NB136_128.out; have hnb195 := NB128_148.out; have hnc195 := NB148_128.out; obtain ⟨hcz196_0, hcz196_1, hfz196_0, hfz196_1⟩ := zc2 BK128; obtain ⟨Ao197, co197, eo197⟩ := Kd.V_slice HO_129001.out; subst eo197; have p165 : 0 ≤ (x19_4 : Int) := of_decide_eq_true (by assumption); have q165 : x19_4 < (x129001_2.length : Int) := of_decide_eq_true (by assumption); obtain ⟨ad165, e165, hx165_0⟩ := Kd.at_bool (Kd.V_reads' HO_129001.out).2.2 x19_4 p165 q165; (try rw [← Nbq186.out] at hx165_0); cases e165; replace p165 := eq_true p165; replace q165 := eq_true q165))
                (try simp only [← hl149000_167])
                go_roundg kj167
                case measure => have := HJ11.out; have := HK2.out; have := HJ84.out; have := HK4.out; have := HJ103.out; have := HJ151.out; have := HJ167.out; omega
                case rel => exact ⟨(wrap64 (x19_4 + 1)), (wrap64 (x23_4 + 1)), (x121000_4), (x129000_4), (x137000_4), (y161), (.slice (some ad162) x121000_4.length co192), (.slice (some ad160) x129000_4.length co171), (u137000), (.slice (some ⟨go167, 0, none⟩) y161.length co170), zG, zG, H', ⟨by have := HJ11.out; have := HK2.out; have := HJ84.out; have := HK4.out; have := HJ103.out; have := HJ151.out; have := HJ167.out; omega⟩, ⟨by (try simp only [hl149000_167]); (with_reducible repeat (first | apply zA.a | apply zA.n | apply zA.d)); exact HO_8.out⟩, ⟨by (try simp only [hl149000_167]); (with_reducible repeat (first | apply Kd.V_alloc | apply Kd.V_drewN | apply Kd.V_drew)); exact HO_121000.out⟩, ⟨by (try simp only [hl149000_167]); (with_reducible repeat (first | apply Kd.V_alloc | apply Kd.V_drewN | apply Kd.V_drew)); exact HO_121001.out⟩, ⟨by (try simp only [hl149000_167]); (with_reducible repeat (first | apply Kd.V_alloc | apply Kd.V_drewN | apply Kd.V_drew)); exact HO_129000.out⟩, ⟨by (try simp only [hl149000_167]); (with_reducible repeat (first | apply Kd.V_alloc | apply Kd.V_drewN | apply Kd.V_drew)); exact HO_129001.out⟩, ⟨by (try simp only [hl149000_167]); (with_reducible repeat (first | apply Kd.V_alloc | apply Kd.V_drewN | apply Kd.V_drew)); exact HO_137000.out⟩, ⟨by (try simp only [hl149000_167]); (with_reducible repeat (first | apply Kd.V_alloc | apply Kd.V_drewN | apply Kd.V_drew)); exact HO_137001.out⟩, ⟨by (try simp only [hl149000_167]); (with_reducible repeat (first | apply zA.a | apply zA.n | apply zA.d)); exact HO_149000.out⟩, ⟨by (try simp only [hl149000_167]); (with_reducible repeat (first | apply zA.a | apply zA.n | apply zA.d)); exact HO_149001.out⟩, ⟨by (try simp only [hl149000_167]); (with_reducible repeat (first | refine zA.f ?_ _ | refine zA.g ?_ | refine zA.h ?_ _)); exact BK120.out⟩, ⟨by (try simp only [hl149000_167]); (with_reducible repeat (first | refine zA.f ?_ _ | refine zA.g ?_ | refine zA.h ?_ _)); exact BK128.out⟩, ⟨by (try simp only [hl149000_167]); (with_reducible repeat (first | refine zA.f ?_ _ | refine zA.g ?_ | refine zA.h ?_ _)); exact BK136.out⟩, ⟨by (try simp only [hl149000_167]); (with_reducible repeat (first | refine zA.f ?_ _ | refine zA.g ?_ | refine zA.h ?_ _)); exact BK148.out⟩, ⟨(zB HB)⟩⟩
               replace c187 := Bool.eq_false_iff.mpr c187
               subst c187
               have H1 : (if x20_2 < (y161.length : Int) then (if (rdOf ByteArray.empty y161 x20_2).size + t163.size ≤ 9223372036854775807 then (epitomelaw09_ComposeGaps.l1 kj167 t102 (wrap64 (x19_4 + 1)) x20_2 t151 x22_84 (wrap64 (x23_4 + 1)) x121000_4 x121001_2 x129000_4 x129001_2 x137000_4 x137001_2 (y161.set (x20_2 : Int).toNat ((rdOf ByteArray.empty y161 x20_2) ++ t163)) x149001_2) else (none)) else (none)) = some r := by rw [if_neg (show ¬ (false = true) by decide)] at H; exact H
               clear H;have H := H1
               clear H1;by_cases c198 : x20_2 < (y161.length : Int)
               rotate_left
               ·rw [if_neg c198] at H;exact absurd H (by simp)
               rw [if_pos c198] at H;have c198b0 : decide (x20_2 < (y161.length : Int)) = true := decide_eq_true c198
               clear c198;by_cases c199 : (rdOf ByteArray.empty y161 x20_2).size + t163.size ≤ 9223372036854775807
               rotate_left
               ·rw [if_neg c199] at H;exact absurd H (by simp)
               rw [if_pos c199] at H;have c199b0 := eq_true c199
               have c199b1 : decide ((rdOf ByteArray.empty y161 x20_2).size + t163.size ≤ 9223372036854775807) = true := decide_eq_true c199
               try have c199b2 : (9223372036854775807 < (rdOf ByteArray.empty y161 x20_2).size + t163.size) = False := eq_false (Nat.not_lt.2 c199)
               obtain ⟨y167, hy167⟩ : ∃ y_ : List ByteArray, y_ = (y161.set (x20_2 : Int).toNat ((rdOf ByteArray.empty y161 x20_2) ++ t163)) := ⟨_, rfl⟩
               replace H : (epitomelaw09_ComposeGaps.l1 kj167 t102 (wrap64 (x19_4 + 1)) x20_2 t151 x22_84 (wrap64 (x23_4 + 1)) x121000_4 x121001_2 x129000_4 x129001_2 x137000_4 x137001_2 y167 x149001_2) = some r := by first | (rw [hy167]; with_reducible exact H) | (have H2_ := (Option.bind_some _ _).symm.trans H; rw [hy167]; with_reducible exact H2_) | (have H2_ := (Option.bind_some _ _).symm.trans H; with_reducible exact H2_) | with_reducible exact H | (rw [hy167]; exact H) | exact H
               have Ny167 := Am hy167;clear hy167;have H' := Am H
               clear H;have hnb201 := NB120_128.out;have hnc201 := NB128_120.out;have hnb202 := NB120_136.out;have hnc202 := NB136_120.out;have hnb203 := NB120_148.out;have hnc203 := NB148_120.out;obtain ⟨hcz204_0, hcz204_1, hfz204_0, hfz204_1⟩ := zc2 BK120;obtain ⟨Ao205, co205, eo205⟩ := Kd.V_slice HO_121000.out
               subst eo205
               have p162 : 0 ≤ (x20_2 : Int) := of_decide_eq_true (by assumption)
               have q162 : x20_2 < (x121000_4.length : Int) := of_decide_eq_true (by assumption)
               obtain ⟨ad162, e162, hx162_0⟩ := Kd.at_string (Kd.V_reads' HO_121000.out).2.2 x20_2 p162 q162
               cases e162
               replace p162 := eq_true p162;replace q162 := eq_true q162;try go_wp2_with (first | ((with_reducible refine gate_callee (f := 16) rfl ?_); refine goesL_ (some 208) rfl rfl Tryd.func16 (by kernel_rfl) rfl #[.string (rdOf ByteArray.empty x121000_4 x20_2), .int .i64 x23_4, .int .i64 (wrap64 (x23_4 + 1))] rfl zE ?_; (with_reducible refine (points_Cut.calls (rdOf ByteArray.empty x121000_4 x20_2) x23_4 (wrap64 (x23_4 + 1)) t163 t164 _ ?side1 A182.out).mono ?_); (case side1 => exact zg HG HB); rintro e w206 ⟨rfl, hb⟩; refine ⟨_, rfl, ?_⟩; replace HO_8 := Am (R_below (zR HO_8) hb);replace HO_121000 := Am (Kd.V_below (zV HO_121000) hb);replace HO_121001 := Am (Kd.V_below (zV HO_121001) hb);replace HO_129000 := Am (Kd.V_below (zV HO_129000) hb);replace HO_129001 := Am (Kd.V_below (zV HO_129001) hb);replace HO_137000 := Am (Kd.V_below (zV HO_137000) hb);replace HO_137001 := Am (Kd.V_below (zV HO_137001) hb);replace HO_149000 := Am (R_below (zR HO_149000) hb);replace HO_149001 := Am (R_below (zR HO_149001) hb);replace BK120 := Am (zU BK120 hb);replace BK128 := Am (zU BK128 hb);replace BK136 := Am (zU BK136 hb);replace BK148 := Am (zU BK148 hb);replace HB := Am (below_step (zB HB) hb); (try clear hb); have hnb207 := NB128_136.out; have hnc207 := NB136_128.out; have hnb208 := NB128_148.out; have hnc208 := NB148_128.out; obtain ⟨hcz209_0, hcz209_1, hfz209_0, hfz209_1⟩ := zc2 BK128; obtain ⟨Ao210, co210, eo210⟩ := Kd.V_slice HO_129001.out; subst eo210; have p165 : 0 ≤ (x19_4 : Int) := of_decide_eq_true (by assumption); have q165 : x19_4 < (x129001_2.length : Int) := of_decide_eq_true (by assumption); obtain ⟨ad165, e165, hx165_0⟩ := Kd.at_bool (Kd.V_reads' HO_129001.out).2.2 x19_4 p165 q165; (try rw [← Nbq186.out] at hx165_0); cases e165; replace p165 := eq_true p165; replace q165 := eq_true q165))
               replace HO_8 := Am (R_drew HO_8.out);replace HO_121000 := Am (Kd.V_drew HO_121000.out);replace HO_121001 := Am (Kd.V_drew HO_121001.out);replace HO_129000 := Am (Kd.V_drew HO_129000.out);replace HO_129001 := Am (Kd.V_drew HO_129001.out);replace HO_137000 := Am (Kd.V_drew HO_137000.out);replace HO_137001 := Am (Kd.V_drew HO_137001.out);replace HO_149000 := Am (R_drew HO_149000.out);replace HO_149001 := Am (R_drew HO_149001.out);replace BK120 := Am (blk_drew BK120.out);replace BK128 := Am (blk_drew BK128.out);replace BK136 := Am (blk_drew BK136.out);replace BK148 := Am (blk_drew BK148.out);replace HB := Am (below_drew1 HB.out);have p166 : 0 ≤ (x20_2 : Int) := of_decide_eq_true (by assumption)
               have q166 : x20_2 < (y161.length : Int) := of_decide_eq_true (by assumption)
               obtain ⟨ad166, e166, hx166_0⟩ := Kd.at_string (R_reads' HO_149000.out).2.2 x20_2 p166 q166
               obtain rfl : (⟨go167, 0, none⟩ : Addr) = ad166 := (by injection e166)
               (first | simp only [add_plain] at hx166_0 | simp only [add_at] at hx166_0 | simp only [Addr.add, Nat.zero_add] at hx166_0 | skip)
               replace p166 := eq_true p166;replace q166 := eq_true q166;have p200 : 0 ≤ (x20_2 : Int) := of_decide_eq_true (by assumption)
               have q200 : (x20_2 : Int) < ((y161.length : Int) : Int) := of_decide_eq_true (by assumption)
               obtain ⟨hx200_0, hf200_0⟩ := R_celln (⟨#[]⟩ : ByteArray) HO_149000.out (x20_2 : Int) p200 q200
               replace p200 := eq_true p200;replace q200 := eq_true q200;have HP212 := R_putn HO_149000.out (x20_2 : Int) ((rdOf ByteArray.empty y161 x20_2) ++ t163)
               rw [← Ny167.out] at HP212
               have HQ212 := Am HP212;clear HP212;refine start_ (n := 12) (S := fun w' => w'.cell? ⟨gb148, 0, none⟩ = some (.slice (some ⟨go167, 0, none⟩) y161.length co170) ∧ w'.cell? ⟨gb148, 1, none⟩ = some (u149001) ∧ w'.cell? ⟨go167, (x20_2).toNat, none⟩ = some (.string (rdOf ByteArray.empty y161 x20_2))) (ds := [11]) #[zu, zu, zu, zu, zu, zu, zu, zu, zu, zu, zu, zu] (by kernel_rfl) rfl rfl ⟨(blk_cell BK148.out 0).trans rfl, (blk_cell BK148.out 1).trans rfl, hx166_0⟩ (fun hHeld => ?_); refine with_tabW epitomelaw09_ComposeGaps.tab30 epitomelaw09_ComposeGaps.bits30 (fun HT_ HW_ => ?_)
               generalize w206.drew = w211 at HO_8 HO_121000 HO_121001 HO_129000 HO_129001 HO_137000 HO_137001 HO_149000 HO_149001 BK120 BK128 BK136 BK148 HB HQ212 hf200_0 hx166_0 hx200_0 hHeld ⊢
               refine pure_ (i := 0) (N := some 219) (v := ?_) (a' := ?_) #[zt, zu, zu, zu, zu, zu, zu, zu, zu, zu, zu, zu] rfl rfl (any_of HT_.out (by kernel_rfl)) (fun _ _ _ h => h) (Or.inl ⟨by rfl, ?_⟩) ?_ ?_
               rotate_left
               ·intro w'
                go_simp;with_reducible rfl
               rotate_left
               ·simp only [Act.put, zS, i64_w, i32_w]
                rfl
               refine pure_ (i := 2) (N := some 221) (v := ?_) (a' := ?_) #[zt, zu, zt, zu, zu, zu, zu, zu, zu, zu, zu, zu] rfl rfl (any_of HT_.out (by kernel_rfl)) (fun _ _ _ h => h) (Or.inl ⟨by rfl, ?_⟩) ?_ ?_
               rotate_left
               ·intro w'
                go_simp;with_reducible rfl
               rotate_left
               ·simp only [Act.put, zS, i64_w, i32_w]
                rfl
               refine pure_ (i := 3) (N := some 222) (v := ?_) (a' := ?_) #[zt, zu, zt, zt, zu, zu, zu, zu, zu, zu, zu, zu] rfl rfl (any_of HT_.out (by kernel_rfl)) (fun _ _ _ h => h) (Or.inl ⟨by rfl, ?_⟩) ?_ ?_
               rotate_left
               ·intro w'
                go_simp;with_reducible rfl
               rotate_left
               ·simp only [Act.put, zS, i64_w, i32_w]
                rfl
               refine pure_ (i := 5) (N := some 224) (v := ?_) (a' := ?_) #[zt, zu, zt, zt, zu, zt, zu, zu, zu, zu, zu, zu] rfl rfl (any_of HT_.out (by kernel_rfl)) (fun _ _ _ h => h) (Or.inl ⟨by rfl, ?_⟩) ?_ ?_
               rotate_left
               ·intro w'
                go_simp;with_reducible rfl
               rotate_left
               ·simp only [Act.put, zS, i64_w, i32_w]
                rfl
               refine pure_ (i := 8) (N := some 227) (v := ?_) (a' := ?_) #[zt, zu, zt, zt, zu, zt, zu, zu, zt, zu, zu, zu] rfl rfl (any_of HT_.out (by kernel_rfl)) (fun _ _ _ h => h) (Or.inl ⟨by rfl, ?_⟩) ?_ ?_
               rotate_left
               ·intro w'
                go_simp;with_reducible rfl
               rotate_left
               ·simp only [Act.put, zS, i64_w, i32_w]
                rfl
               refine take_ (i := 1) (N := some 220) (v := ?_) (a' := ?_) #[zt, zt, zt, zt, zu, zt, zu, zu, zt, zu, zu, zu] rfl rfl (take_ofW HT_.out HW_.out (by kernel_rfl)) (fun _ _ _ h => h) (Or.inl ⟨by rfl, ?_⟩) hHeld ?_ ?_
               rotate_left
               ·rintro w' ⟨s0, s1, s2⟩
                go_simp;with_reducible rfl
               rotate_left
               ·simp only [Act.put, zS, i64_w, i32_w]
                rfl
               refine take_ (i := 4) (N := some 223) (v := ?_) (a' := ?_) #[zt, zt, zt, zt, zt, zt, zu, zu, zt, zu, zu, zu] rfl rfl (take_ofW HT_.out HW_.out (by kernel_rfl)) (fun _ _ _ h => h) (Or.inl ⟨by rfl, ?_⟩) hHeld ?_ ?_
               rotate_left
               ·rintro w' ⟨s0, s1, s2⟩
                go_simp;with_reducible rfl
               rotate_left
               ·simp only [Act.put, zS, i64_w, i32_w]
                rfl
               refine pure_ (i := 6) (N := some 225) (v := ?_) (a' := ?_) #[zt, zt, zt, zt, zt, zt, zt, zu, zt, zu, zu, zu] rfl rfl (any_of HT_.out (by kernel_rfl)) (fun _ _ _ h => h) (Or.inl ⟨by rfl, ?_⟩) ?_ ?_
               rotate_left
               ·intro w'
                go_simp;with_reducible rfl
               rotate_left
               ·simp only [Act.put, zS, i64_w, i32_w]
                rfl
               refine take_ (i := 7) (N := some 226) (v := ?_) (a' := ?_) #[zt, zt, zt, zt, zt, zt, zt, zt, zt, zu, zu, zu] rfl rfl (take_ofW HT_.out HW_.out (by kernel_rfl)) (fun _ _ _ h => h) (Or.inl ⟨by rfl, ?_⟩) hHeld ?_ ?_
               rotate_left
               ·rintro w' ⟨s0, s1, s2⟩
                go_simp;with_reducible rfl
               rotate_left
               ·simp only [Act.put, zS, i64_w, i32_w]
                rfl
               refine pure_ (i := 9) (N := some 228) (v := ?_) (a' := ?_) #[zt, zt, zt, zt, zt, zt, zt, zt, zt, zt, zu, zu] rfl rfl (any_of HT_.out (by kernel_rfl)) (fun _ _ _ h => h) (Or.inl ⟨by rfl, ?_⟩) ?_ ?_
               rotate_left
               ·intro w'
                go_simp;with_reducible rfl
               rotate_left
               ·simp only [Act.put, zS, i64_w, i32_w]
                rfl
               refine pure_ (i := 10) (N := some 229) (v := ?_) (a' := ?_) #[zt, zt, zt, zt, zt, zt, zt, zt, zt, zt, zt, zu] rfl rfl (any_of HT_.out (by kernel_rfl)) (fun _ _ _ h => h) (Or.inl ⟨by rfl, ?_⟩) ?_ ?_
               rotate_left
               ·intro w'
                go_simp;with_reducible rfl
               rotate_left
               ·simp only [Act.put, zS, i64_w, i32_w]
                rfl
               refine last_ (i := 11) (N := none) #[zt, zt, zt, zt, zt, zt, zt, zt, zt, zt, zt, zt] rfl rfl (one_of HT_.out (by kernel_rfl)) (by decide) (fun K hK => ?_)
               refine skip_ (w1 := ?_) (by rfl) rfl ?_ ?_
               rotate_left
               ·go_simp;rfl
               refine hK.out _ _ ?_
               clear hK K;refine done_ (done_of HT_.out (by kernel_rfl)) ?_
               try go_wp2
               (try simp only [← hl149000_167])
               go_roundg kj167
               case measure => have := HJ11.out; have := HK2.out; have := HJ84.out; have := HK4.out; have := HJ103.out; have := HJ151.out; have := HJ167.out; omega
               case rel => exact ⟨(wrap64 (x19_4 + 1)), (wrap64 (x23_4 + 1)), (x121000_4), (x129000_4), (x137000_4), (y167), (.slice (some ad162) x121000_4.length co205), (.slice (some ad160) x129000_4.length co171), (u137000), (.slice (some ⟨go167, 0, none⟩) y161.length co170), zG, zG, H', ⟨by have := HJ11.out; have := HK2.out; have := HJ84.out; have := HK4.out; have := HJ103.out; have := HJ151.out; have := HJ167.out; omega⟩, ⟨by (try simp only [hl149000_167]); (with_reducible repeat (first | apply zA.a | apply zA.n | apply zA.d)); exact R_mono (R_far (p := ⟨go167, (x20_2 : Int).toNat, none⟩) (R_types HO_8.out (zrt HO_149000).choose_spec (by decide)) (fun _ hk => hk.2) (.string ((rdOf ByteArray.empty y161 x20_2) ++ t163))) (fun _ hk => trivial)⟩, ⟨by (try simp only [hl149000_167]); (with_reducible repeat (first | apply Kd.V_alloc | apply Kd.V_drewN | apply Kd.V_drew)); exact Kd.V_mono (Kd.V_far (p := ⟨go167, (x20_2 : Int).toNat, none⟩) (Kd.V_mono HO_121000.out (fun k_ hk => (⟨hk, fun e_ => hk.2.1 (by rw [e_]; rfl)⟩ : _ ∧ k_ ≠ go167))) (fun _ hk => hk.2) (.string ((rdOf ByteArray.empty y161 x20_2) ++ t163))) zp⟩, ⟨by (try simp only [hl149000_167]); (with_reducible repeat (first | apply Kd.V_alloc | apply Kd.V_drewN | apply Kd.V_drew)); exact Kd.V_mono (Kd.V_far (p := ⟨go167, (x20_2 : Int).toNat, none⟩) (Kd.V_mono HO_121001.out (fun k_ hk => (⟨hk, fun e_ => hk.2.1 (by rw [e_]; rfl)⟩ : _ ∧ k_ ≠ go167))) (fun _ hk => hk.2) (.string ((rdOf ByteArray.empty y161 x20_2) ++ t163))) zp⟩, ⟨by (try simp only [hl149000_167]); (with_reducible repeat (first | apply Kd.V_alloc | apply Kd.V_drewN | apply Kd.V_drew)); exact Kd.V_mono (Kd.V_far (p := ⟨go167, (x20_2 : Int).toNat, none⟩) (Kd.V_mono HO_129000.out (fun k_ hk => (⟨hk, fun e_ => hk.2.1 (by rw [e_]; rfl)⟩ : _ ∧ k_ ≠ go167))) (fun _ hk => hk.2) (.string ((rdOf ByteArray.empty y161 x20_2) ++ t163))) zp⟩, ⟨by (try simp only [hl149000_167]); (with_reducible repeat (first | apply Kd.V_alloc | apply Kd.V_drewN | apply Kd.V_drew)); exact Kd.V_mono (Kd.V_far (p := ⟨go167, (x20_2 : Int).toNat, none⟩) (Kd.V_mono HO_129001.out (fun k_ hk => (⟨hk, fun e_ => hk.2.1 (by rw [e_]; rfl)⟩ : _ ∧ k_ ≠ go167))) (fun _ hk => hk.2) (.string ((rdOf ByteArray.empty y161 x20_2) ++ t163))) zp⟩, ⟨by (try simp only [hl149000_167]); (with_reducible repeat (first | apply Kd.V_alloc | apply Kd.V_drewN | apply Kd.V_drew)); exact Kd.V_mono (Kd.V_far (p := ⟨go167, (x20_2 : Int).toNat, none⟩) (Kd.V_mono HO_137000.out (fun k_ hk => (⟨hk, fun e_ => hk.2.1 (by rw [e_]; rfl)⟩ : _ ∧ k_ ≠ go167))) (fun _ hk => hk.2) (.string ((rdOf ByteArray.empty y161 x20_2) ++ t163))) zp⟩, ⟨by (try simp only [hl149000_167]); (with_reducible repeat (first | apply Kd.V_alloc | apply Kd.V_drewN | apply Kd.V_drew)); exact Kd.V_mono (Kd.V_far (p := ⟨go167, (x20_2 : Int).toNat, none⟩) (Kd.V_mono HO_137001.out (fun k_ hk => (⟨hk, fun e_ => hk.2.1 (by rw [e_]; rfl)⟩ : _ ∧ k_ ≠ go167))) (fun _ hk => hk.2) (.string ((rdOf ByteArray.empty y161 x20_2) ++ t163))) zp⟩, ⟨by (try simp only [hl149000_167]); (with_reducible repeat (first | apply zA.a | apply zA.n | apply zA.d)); exact HQ212.out⟩, ⟨by (try simp only [hl149000_167]); (with_reducible repeat (first | apply zA.a | apply zA.n | apply zA.d)); exact R_mono (R_far (p := ⟨go167, (x20_2 : Int).toNat, none⟩) (R_types HO_149001.out (zrt HO_149000).choose_spec (by decide)) (fun _ hk => hk.2) (.string ((rdOf ByteArray.empty y161 x20_2) ++ t163))) (fun _ hk => trivial)⟩, ⟨by (try simp only [hl149000_167]); (with_reducible repeat (first | refine zA.f ?_ _ | refine zA.g ?_ | refine zA.h ?_ _)); refine blk_far ?_ (by have h_ := R_ne HO_149000.out BK120.out (by decide); intro e_; exact h_ (by rw [e_]; rfl)) _; (with_reducible repeat (first | refine zA.f ?_ _ | refine zA.g ?_ | refine zA.h ?_ _)); exact BK120.out⟩, ⟨by (try simp only [hl149000_167]); (with_reducible repeat (first | refine zA.f ?_ _ | refine zA.g ?_ | refine zA.h ?_ _)); refine blk_far ?_ (by have h_ := R_ne HO_149000.out BK128.out (by decide); intro e_; exact h_ (by rw [e_]; rfl)) _; (with_reducible repeat (first | refine zA.f ?_ _ | refine zA.g ?_ | refine zA.h ?_ _)); exact BK128.out⟩, ⟨by (try simp only [hl149000_167]); (with_reducible repeat (first | refine zA.f ?_ _ | refine zA.g ?_ | refine zA.h ?_ _)); refine blk_far ?_ (by have h_ := R_ne HO_149000.out BK136.out (by decide); intro e_; exact h_ (by rw [e_]; rfl)) _; (with_reducible repeat (first | refine zA.f ?_ _ | refine zA.g ?_ | refine zA.h ?_ _)); exact BK136.out⟩, ⟨by (try simp only [hl149000_167]); (with_reducible repeat (first | refine zA.f ?_ _ | refine zA.g ?_ | refine zA.h ?_ _)); refine blk_far ?_ (by have h_ := R_ne HO_149000.out BK148.out (by decide); intro e_; exact h_ (by rw [e_]; rfl)) _; (with_reducible repeat (first | refine zA.f ?_ _ | refine zA.g ?_ | refine zA.h ?_ _)); exact BK148.out⟩, ⟨by repeat (first | (with_reducible first | exact HB.out | apply zA.b | apply zA.w | apply zA.e | refine zA.s ?_ GB167.out | refine zA.s ?_ GE120.out | refine zA.s ?_ GE128.out | refine zA.s ?_ GE136.out | refine zA.s ?_ GE148.out) | exact HB.out)⟩⟩
end Go.Proofs.YtekjfodfedpioaaDoor.F
end
section
namespace Go.Proofs.YtekjfodfedpioaaDoor.F
open Go.RowKit Go.Proofs.YtekjfodfedpioaaDoorW.PrintWords Go.Proofs.YtekjfodfedpioaaDoorW.PrintLast Go.Proofs.YtekjfodfedpioaaDoorW.PrintMore
set_option linter.unusedVariables false
set_option linter.unusedSimpArgs false
structure OvS (w0 W : World) (gL glx gly cx cy : Nat) (A B : Option Addr) (x y out : List S55) (v : Value) : Prop where
 b : Below w0.heap.size w0 W
 rx : RowAt W A glx x
 ry : RowAt W B gly y
 hx : 0 < x.length → w0.heap.size ≤ glx
 hy : 0 < y.length → w0.heap.size ≤ gly
 xc : x.length ≤ cx
 xm : cx ≤ 9223372036854775807
 yc : y.length ≤ cy
 ym : cy ≤ 9223372036854775807
 n : 0 < x.length → 0 < y.length → glx ≠ gly
 c : W.heap[gL]? = some (.cells #[v] 22 (0, 0))
 hL : w0.heap.size ≤ gL
 o : Kd.R k55 55 W w0.heap.size (fun _ => True) v out
 nx : 0 < x.length → some glx ≠ v.ownBlock
 ny : 0 < y.length → some gly ≠ v.ownBlock
theorem RowAt.keep {W W' : World} {A : Option Addr} {gl : Nat} {l : List S55} (h : RowAt W A gl l) (hk : 0 < l.length → W'.heap[gl]? = W.heap[gl]?) : RowAt W' A gl l := fun hp => by
 obtain ⟨o, cur, e1, e2, e3⟩ := h hp
 exact ⟨o, cur, e1, (hk hp).trans e2, e3⟩
theorem RowAt.lt {W : World} {A : Option Addr} {gl : Nat} {l : List S55} (h : RowAt W A gl l) (hp : 0 < l.length) : gl < W.heap.size := by
 obtain ⟨_, _, _, e, _⟩ := h hp
 exact blk_lt e
theorem OvS.swap {w0 W : World} {gL glx gly cx cy : Nat} {A B : Option Addr} {x y out : List S55} {v : Value} (h : OvS w0 W gL glx gly cx cy A B x y out v) : OvS w0 W gL gly glx cy cx B A y x out v :=
 ⟨h.b, h.ry, h.rx, h.hy, h.hx, h.yc, h.ym, h.xc, h.xm, fun a b e => h.n b a e.symm, h.c, h.hL, h.o, h.ny, h.nx⟩
theorem OvS.below {w0 W W' : World} {gL glx gly cx cy : Nat} {A B : Option Addr} {x y out : List S55} {v : Value} (h : OvS w0 W gL glx gly cx cy A B x y out v) (hb : Below W.heap.size W W') : OvS w0 W' gL glx gly cx cy A B x y out v :=
 ⟨below_step h.b hb, h.rx.keep (fun hp => hb.block _ (h.rx.lt hp)), h.ry.keep (fun hp => hb.block _ (h.ry.lt hp)), h.hx, h.hy, h.xc, h.xm, h.yc, h.ym, h.n, blk_below h.c hb, h.hL, Kd.R_below h.o hb, h.nx, h.ny⟩
theorem OvS.far {w0 W : World} {gL glx gly cx cy : Nat} {A B : Option Addr} {x y out : List S55} {v : Value} (h : OvS w0 W gL glx gly cx cy A B x y out v) (hp : 0 < x.length) : glx ≠ gL := by
 obtain ⟨_, _, _, e, _⟩ := h.rx hp
 exact blk_ne e h.c (by decide)
theorem OvS.tail {w0 W : World} {gL glx gly cx cy : Nat} {A B A' : Option Addr} {s : S55} {x y out : List S55} {v : Value} (h : OvS w0 W gL glx gly cx cy A B (s :: x) y out v) (e : (if cx = 1 then A else A.map (·.add (1 * 3))) = A') : OvS w0 W gL glx gly (cx - 1) cy A' B x y out v :=
 ⟨h.b, by rw [← e]; exact row_tail h.rx h.xc, h.ry, fun _ => h.hx (by simp), h.hy, by have := h.xc; rw [List.length_cons] at this; omega, by have := h.xm; omega, h.yc, h.ym, fun _ hq => h.n (by simp) hq, h.c, h.hL, h.o, fun _ => h.nx (by simp), h.ny⟩
theorem OvS.append {w0 W w1 : World} {gL glx gly cx cy : Nat} {A B : Option Addr} {x y out out' : List S55} {v v1 : Value} (h : OvS w0 W gL glx gly cx cy A B x y out v) (ho : Kd.R k55 55 w1 w0.heap.size (fun _ => True) v1 out') (hb : Below w0.heap.size w0 w1) (hg : W.grownBy w1 v.ownBlock) (hat : v1.ownBlock = v.ownBlock ∨ ∃ b, v1.ownBlock = some b ∧ W.heap.size ≤ b) :
  OvS w0 (w1.setCell ⟨gL, 0, none⟩ v1) gL glx gly cx cy A B x y out' v1 := by
 have away : ∀ k, k < W.heap.size → some k ≠ v.ownBlock → some k ≠ v1.ownBlock := by
  intro k hk hn e;rcases hat with e1 | ⟨b, e1, hb⟩
  ·exact hn (e.trans e1)
  ·rw [e1] at e
   injection e with e
   omega
 have hc1 : w1.heap[gL]? = some (.cells #[v] 22 (0, 0)) := (hg.block gL (blk_lt h.c) (Kd.R_ne h.o h.c (by decide))).trans h.c
 have keep : ∀ k, k < W.heap.size → k ≠ gL → some k ≠ v.ownBlock → (w1.setCell ⟨gL, 0, none⟩ v1).heap[k]? = W.heap[k]? := fun k hk h1 h2 => (Below.heap_setCell w1 ⟨gL, 0, none⟩ v1 k h1).trans (hg.block k hk h2)
 exact ⟨hb.setCell (p := ⟨gL, 0, none⟩) h.hL _, h.rx.keep (fun hp => keep _ (h.rx.lt hp) (h.far hp) (h.nx hp)), h.ry.keep (fun hp => keep _ (h.ry.lt hp) (h.swap.far hp) (h.ny hp)), h.hx, h.hy, h.xc, h.xm, h.yc, h.ym, h.n, blk_put hc1 0 _ rfl, h.hL, Kd.R_set ho hc1 (by decide) 0 _, fun hp => away _ (h.rx.lt hp) (h.nx hp), fun hp => away _ (h.ry.lt hp) (h.ny hp)⟩
end Go.Proofs.YtekjfodfedpioaaDoor.F
end
