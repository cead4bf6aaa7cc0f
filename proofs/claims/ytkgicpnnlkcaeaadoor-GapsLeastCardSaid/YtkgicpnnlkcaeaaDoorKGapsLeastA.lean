import Derived.Test.YtkgicpnnlkcaeaaDoorKED
import Derived.Below
import Derived.Deep.Draws
import Derived.Deep.AppendLies
import Derived.Maps.AppendAt
import Derived.OwnWalk
import Derived.Laws.BytesArg
import Derived.Laws.MakeOwn
import Derived.Laws.OwnMore
import Derived.Deep.OwnRows
import Derived.Tactics
import Derived.Lib.ConvBytes
import Derived.Laws.Slices
import Derived.WalkKit
import Derived.KernelRfl
import Derived.RowKit3
import Derived.Deep.LoopGhost
import Derived.Deep.QuietTactic
import Derived.BigQuiet
import Derived.WideLaws
import Derived.Deep.DeepCutAuto
import Derived.Deep.CutBlock
import Derived.Deep.RegionHeld3
import Derived.Laws.Rows
import Derived.Lib.AppendStr
import Derived.ArgAppend
import Derived.Laws.IdiomCopy
import Derived.RowKit
import Derived.OrdersHeld
import Derived.Laws.BitsLemmas
import Derived.Laws.StructEq
import Derived.Test.YtkgicpnnlkcaeaaDoorProg
import Derived.Handy
import Derived.Shelf.Unicode.DecodeSlow
import Derived.Ground.NamesProg
import Derived.Shelf.Unicode.ValidAny
import Derived.Maps.OwnOps
import Derived.Maps.Views
import Derived.Laws.RangeString
import Derived.Laws.RangeAny
import Derived.Lib.RuneCount
import Derived.Laws.IdiomStrings
import Derived.Laws.Cover4
section
namespace Go.Proofs.YtkgicpnnlkcaeaaDoor.F
open Go.RowKit Go.Proofs.YtkgicpnnlkcaeaaDoorW.PrintWords Go.Proofs.YtkgicpnnlkcaeaaDoorW.PrintLast Go.Proofs.YtkgicpnnlkcaeaaDoorW.PrintMore
attribute [local go_sem] max2_int min2_int max_two min_two max_three min_three max_four min_four cell_setCell_isSome
set_option linter.unusedVariables false
set_option linter.unusedSimpArgs false
mutual
def epitomelaw06_GapsLeast.l0 : Nat → Bool → List (S33) → Int → List (S33) → Int → Int → Int → Int → List ByteArray → List Bool → Option (Bool)
  | 0, _, _, _, _, _, _, _, _, _, _ => none
  | k + 1, x5, x6, x8, x9, x10, x11, x12, x13, x113000, x113001 => if x13 < (x113000.length : Int) then (if 0 ≤ x13 then (if (rdOf ByteArray.empty x113000 x13).toList = ([] : List UInt8) then (epitomelaw06_GapsLeast.j1 k x5 x6 x8 x9 x10 x11 x12 x13 x113000 x113001) else (epitomelaw06_GapsLeast.j1 k x5 x6 x8 x9 x10 (wrap64 (x11 + 1)) 2 x13 x113000 x113001)) else (none)) else (if x5 = true then (if x8 = 0 then (if x10 = 0 then (if (x9.length : Int) = x11 then (some (decide ((x6.length : Int) ≥ x11))) else (some false)) else (some false)) else (some false)) else (some false))
def epitomelaw06_GapsLeast.j1 : Nat → Bool → List (S33) → Int → List (S33) → Int → Int → Int → Int → List ByteArray → List Bool → Option (Bool)
  | 0, _, _, _, _, _, _, _, _, _, _ => none
  | k + 1, x5, x6, x8, x9, x10, x11, x12, x13, x113000, x113001 => if x13 < (x113001.length : Int) then (if 0 ≤ x13 then (if rdOf false x113001 x13 = true then (if 3 = x12 then (epitomelaw06_GapsLeast.l0 k x5 x6 x8 x9 x10 x11 3 (wrap64 (x13 + 1)) x113000 x113001) else (epitomelaw06_GapsLeast.l0 k x5 x6 x8 x9 x10 (wrap64 (x11 + 1)) 3 (wrap64 (x13 + 1)) x113000 x113001)) else (if 1 = x12 then (epitomelaw06_GapsLeast.l0 k x5 x6 x8 x9 x10 x11 1 (wrap64 (x13 + 1)) x113000 x113001) else (epitomelaw06_GapsLeast.l0 k x5 x6 x8 x9 x10 (wrap64 (x11 + 1)) 1 (wrap64 (x13 + 1)) x113000 x113001))) else (none)) else (epitomelaw06_GapsLeast.l0 k x5 x6 x8 x9 x10 x11 x12 (wrap64 (x13 + 1)) x113000 x113001)
end
def epitomelaw06_GapsLeast.f (k : Nat) (l0 : List (S33)) (a1 : Int) : Option (Bool) := (epitomelaw06_shown.f k).bind fun t101 => ((epitomeref04_Fit.f k l0 (wrap64 (Int.tmod a1 64))).bind fun t102 => ((gaps_Of.f k t102).bind fun bt105 => ((gaps_Spans.f bt105.1 bt105.2.1).bind fun bt113 => (epitomelaw06_GapsLeast.l0 k t101 t102 bt105.2.2 bt113.1 bt113.2 0 0 0 bt105.1 bt105.2.1))))
set_option maxHeartbeats 8000000 in
set_option maxRecDepth 100000 in
theorem epitomelaw06_GapsLeast.calls (k : Nat) (A0 : Option Addr) (c0 : Nat) (l0 : List (S33)) (a1 : Int) (r : Bool) (w : World) (hG : Glob w) (hr0 : Kd.C k33 w A0 l0.length l0) (hc0 : l0.length ≤ c0) (h : epitomelaw06_GapsLeast.f k l0 a1 = some r) :
    Calls Tryd.prog 9 #[.slice A0 l0.length c0, .int .u8 a1] w fun e w' => e = .returned (.bool r) ∧ Below w.heap.size w w' := by
  have hu28 := Tryd.underlying28
  have HG := Aside0.mk hG
  clear hG
  have HR0 := Aside0.mk hr0
  have HC0 := Aside0.mk hc0
  clear hr0 hc0
  have HB := Aside0.mk (Below.refl w.heap.size w)
  have H : ((epitomelaw06_shown.f k).bind fun t101 => ((epitomeref04_Fit.f k l0 (wrap64 (Int.tmod a1 64))).bind fun t102 => ((gaps_Of.f k t102).bind fun bt105 => ((gaps_Spans.f bt105.1 bt105.2.1).bind fun bt113 => (epitomelaw06_GapsLeast.l0 k t101 t102 bt105.2.2 bt113.1 bt113.2 0 0 0 bt105.1 bt105.2.1))))) = some r := h
  clear h
  replace H := Option.bind_eq_some_iff.mp H
  obtain ⟨t101, A30, H⟩ := H
  replace H : ((epitomeref04_Fit.f k l0 (wrap64 (Int.tmod a1 64))).bind fun t102 => ((gaps_Of.f k t102).bind fun bt105 => ((gaps_Spans.f bt105.1 bt105.2.1).bind fun bt113 => (epitomelaw06_GapsLeast.l0 k t101 t102 bt105.2.2 bt113.1 bt113.2 0 0 0 bt105.1 bt105.2.1)))) = some r := H
  have A3 := Aside0.mk A30
  clear A30
  replace H := Option.bind_eq_some_iff.mp H
  obtain ⟨t102, A40, H⟩ := H
  replace H : ((gaps_Of.f k t102).bind fun bt105 => ((gaps_Spans.f bt105.1 bt105.2.1).bind fun bt113 => (epitomelaw06_GapsLeast.l0 k t101 t102 bt105.2.2 bt113.1 bt113.2 0 0 0 bt105.1 bt105.2.1))) = some r := H
  have A4 := Aside0.mk A40
  clear A40
  replace H := Option.bind_eq_some_iff.mp H
  obtain ⟨⟨t105, t108, t111⟩, A50, H⟩ := H
  replace H : ((gaps_Spans.f t105 t108).bind fun bt113 => (epitomelaw06_GapsLeast.l0 k t101 t102 t111 bt113.1 bt113.2 0 0 0 t105 t108)) = some r := H
  have A5 := Aside0.mk A50
  clear A50
  replace H := Option.bind_eq_some_iff.mp H
  obtain ⟨⟨t113, t116⟩, A60, H⟩ := H
  replace H : (epitomelaw06_GapsLeast.l0 k t101 t102 t111 t113 t116 0 0 0 t105 t108) = some r := H
  have A6 := Aside0.mk A60
  clear A60
  have H' := Aside0.mk H
  clear H
  go_enter Tryd.func9, Tryd.ntmps9
  go_wp2_with (first | ((with_reducible refine gate_callee (f := 15) rfl ?_); refine goesL_ (some 15) rfl rfl Tryd.func15 (by kernel_rfl) rfl #[] rfl (by (try simp only [List.map_toArray, List.map_cons, List.map_nil]); first | done | rfl | (simp only [List.length_drop, List.length_take]; rfl)) ?_; (with_reducible refine (epitomelaw06_shown.calls k  t101 _ ?side1 A3.out).mono ?_); (case side1 => first | (with_reducible exact HG.out) | exact Glob.below HG.out (by repeat (first | (with_reducible first | exact HB.out | apply below_alloc | apply pw_below_drewN | apply below_drew1) | exact HB.out)) | exact Glob.drawn HG.out (by repeat (first | exact Drawn0.refl _ | apply Drawn0.step))); rintro e w7 ⟨rfl, hb⟩; refine ⟨_, rfl, ?_⟩; have n0_ := Aside0.mk (below_step (by repeat (first | (with_reducible first | exact HB.out | apply below_alloc | apply pw_below_drewN | apply below_drew1) | exact HB.out)) hb); clear HB; have HB := n0_; clear n0_; (try clear hb); (try clear hb2); (try clear hk); (try clear hi)) | ((with_reducible refine gate_callee (f := 18) rfl ?_); refine goesL_ (some 20) rfl rfl Tryd.func18 (by kernel_rfl) rfl #[.slice A0 l0.length c0, .int .i64 (wrap64 (Int.tmod a1 64))] rfl (by (try simp only [List.map_toArray, List.map_cons, List.map_nil]); first | done | rfl | (simp only [List.length_drop, List.length_take]; rfl)) ?_; (with_reducible refine (epitomeref04_Fit.calls k _ _ l0 (wrap64 (Int.tmod a1 64)) t102 _ ?side1 ?side2 A4.out).mono ?_); (case side1 => repeat (first | exact (Kd.C_below HR0.out HB.out) | (with_reducible refine Kd.C_alloc ?_ _) | (with_reducible refine Kd.C_drewN ?_ _) | (with_reducible refine Kd.C_drew ?_))); (case side2 => exact HC0.out); rintro e w8 ⟨v103, rfl, ho0, hb⟩; refine ⟨_, rfl, ?_⟩; have n0_ := Aside0.mk (Kd.R_lower ho0 (below_size (by repeat (first | (with_reducible first | exact HB.out | apply below_alloc | apply pw_below_drewN | apply below_drew1) | exact HB.out)))); have n1_ := Aside0.mk (below_step (by repeat (first | (with_reducible first | exact HB.out | apply below_alloc | apply pw_below_drewN | apply below_drew1) | exact HB.out)) hb); clear HB; have HO104 := n0_; have HB := n1_; clear n0_ n1_; (try clear hb); (try clear hb2); (try clear hk); (try clear hi); (try clear ho0); obtain ⟨Ao9, co9, eo9⟩ := Kd.R_slice HO104.out; subst eo9) | ((with_reducible refine gate_callee (f := 17) rfl ?_); refine goesL_ (some 23) rfl rfl Tryd.func17 (by kernel_rfl) rfl #[.slice Ao9 t102.length co9] rfl (by (try simp only [List.map_toArray, List.map_cons, List.map_nil]); first | done | rfl | (simp only [List.length_drop, List.length_take]; rfl)) ?_; (with_reducible refine (gaps_Of.calls k _ _ t102 t105 t108 t111 _ ?side1 ?side2 ?side3 A5.out).mono ?_); (case side1 => first | (with_reducible exact HG.out) | exact Glob.below HG.out (by repeat (first | (with_reducible first | exact HB.out | apply below_alloc | apply pw_below_drewN | apply below_drew1) | exact HB.out)) | exact Glob.drawn HG.out (by repeat (first | exact Drawn0.refl _ | apply Drawn0.step))); (case side2 => repeat (first | exact (Kd.R_reads' HO104.out).2.2 | (with_reducible refine Kd.C_alloc ?_ _) | (with_reducible refine Kd.C_drewN ?_ _) | (with_reducible refine Kd.C_drew ?_))); (case side3 => exact (Kd.R_reads' HO104.out).2.1); rintro e w10 ⟨v106, v109, rfl, ho0, ho1, hb⟩; refine ⟨_, rfl, ?_⟩; have n0_ := Aside0.mk (Kd.R_below (by (with_reducible repeat (first | apply Kd.R_alloc | apply Kd.R_drewN | apply Kd.R_drew)); exact HO104.out) hb); have n1_ := Aside0.mk (Kd.V_lower (Kd.V_mono (ok' := fun k_ => some k_ ≠ (.slice Ao9 t102.length co9 : Value).ownBlock) ho0 (fun k_ hk_ => (Kd.fresh' (Kd.R_lt (by (with_reducible repeat (first | apply Kd.R_alloc | apply Kd.R_drewN | apply Kd.R_drew)); exact HO104.out)) k_ hk_))) (below_size (by repeat (first | (with_reducible first | exact HB.out | apply below_alloc | apply pw_below_drewN | apply below_drew1) | exact HB.out)))); have n2_ := Aside0.mk (Kd.V_lower (Kd.V_mono (ok' := fun k_ => some k_ ≠ (.slice Ao9 t102.length co9 : Value).ownBlock) ho1 (fun k_ hk_ => (Kd.fresh' (Kd.R_lt (by (with_reducible repeat (first | apply Kd.R_alloc | apply Kd.R_drewN | apply Kd.R_drew)); exact HO104.out)) k_ hk_))) (below_size (by repeat (first | (with_reducible first | exact HB.out | apply below_alloc | apply pw_below_drewN | apply below_drew1) | exact HB.out)))); have n3_ := Aside0.mk (below_step (by repeat (first | (with_reducible first | exact HB.out | apply below_alloc | apply pw_below_drewN | apply below_drew1) | exact HB.out)) hb); clear HO104; clear HB; have HO104 := n0_; have HO107 := n1_; have HO110 := n2_; have HB := n3_; clear n0_ n1_ n2_ n3_; (try clear hb); (try clear hb2); (try clear hk); (try clear hi); (try clear ho0); (try clear ho1)) | ((with_reducible refine gate_dst (N := 7) rfl ?_); (try (refine gate_guard (by rfl) ?_; dsimp only)); refine box_event ?hg (N := 7) ?hd (cs := #[.slice none 0 0, .slice none 0 0]) (t := 28) ?hr ?_; (case hd => rfl); (case hg => rfl); (case hr => first | (go_simp; done) | (go_simp; rfl)); intro gb112 hg w11 hbox hb; have n0_ := Aside0.mk (Kd.R_below (by (with_reducible repeat (first | apply Kd.R_alloc | apply Kd.R_drewN | apply Kd.R_drew)); exact HO104.out) hb); have n1_ := Aside0.mk (Kd.V_below (Kd.V_elderB (by (with_reducible repeat (first | apply Kd.V_alloc | apply Kd.V_drewN | apply Kd.V_drew)); exact HO107.out) gb112 (Nat.le_of_eq hg.symm)) hb); have n2_ := Aside0.mk (Kd.V_below (Kd.V_elderB (by (with_reducible repeat (first | apply Kd.V_alloc | apply Kd.V_drewN | apply Kd.V_drew)); exact HO110.out) gb112 (Nat.le_of_eq hg.symm)) hb); have n3_ := Aside0.mk (below_step (by repeat (first | (with_reducible first | exact HB.out | apply below_alloc | apply pw_below_drewN | apply below_drew1) | exact HB.out)) hb); have n4_ := Aside0.mk (hbox); have n5_ := Aside0.mk ((by rw [hg]; exact (below_size (by repeat (first | (with_reducible first | exact HB.out | apply below_alloc | apply pw_below_drewN | apply below_drew1) | exact HB.out))) : w.heap.size ≤ gb112)); have n6_ := Aside0.mk ((by rw [hg]; exact (below_size (by repeat (first | (with_reducible first | exact HB.out | apply below_alloc | apply pw_below_drewN | apply below_drew1) | exact HB.out))) : w.heap.size ≤ gb112)); clear HO104; clear HO107; clear HO110; clear HB; have HO104 := n0_; have HO107 := n1_; have HO110 := n2_; have HB := n3_; have BK112 := n4_; have GW112 := n5_; have GE112 := n6_; clear n0_ n1_ n2_ n3_ n4_ n5_ n6_; clear hb hbox hg; obtain ⟨Ao12, co12, eo12⟩ := Kd.V_slice HO107.out; subst eo12; have hcz13_0 : w11.cell? ⟨gb112, 0, none⟩ = some (.slice none 0 0) := (blk_cell BK112.out 0).trans rfl; have hcz13_1 : w11.cell? ⟨gb112, 1, none⟩ = some (.slice none 0 0) := (blk_cell BK112.out 1).trans rfl; have hfz13_0 := blk_frozen BK112.out 0; have hfz13_1 := blk_frozen BK112.out 1; obtain ⟨Ao14, co14, eo14⟩ := Kd.V_slice HO110.out; subst eo14) | ((with_reducible refine gate_callee (f := 30) rfl ?_); refine goesL_ (some 28) rfl rfl Tryd.func30 (by kernel_rfl) rfl #[.agg #[.slice Ao12 t105.length co12, .slice Ao14 t108.length co14]] rfl (by (try simp only [List.map_toArray, List.map_cons, List.map_nil]); first | done | rfl | (simp only [List.length_drop, List.length_take]; rfl)) ?_; (with_reducible refine (gaps_Spans.calls _ _ t105 _ _ t108 t113 t116 _ ?side1 ?side2 ?side3 ?side4 ?side5 A6.out).mono ?_); (case side1 => first | (with_reducible exact HG.out) | exact Glob.below HG.out (by repeat (first | (with_reducible first | exact HB.out | apply below_alloc | apply pw_below_drewN | apply below_drew1 | refine below_set ?_ GE112.out) | exact HB.out)) | exact Glob.drawn HG.out (by repeat (first | exact Drawn0.refl _ | apply Drawn0.step))); (case side2 => refine (Kd.V_reads' (e := 9) (base := w.heap.size) (ok := fun k_ => (some k_ ≠ (.slice Ao9 t102.length co9 : Value).ownBlock ∧ k_ ≠ gb112)) (n := t105.length) (c := co12) ?_).2.2; exact (by (with_reducible repeat (first | apply Kd.V_alloc | apply Kd.V_drewN | apply Kd.V_drew)); exact (Kd.V_mono (Kd.V_far (p := ⟨gb112, 1, none⟩) (Kd.V_far (p := ⟨gb112, 0, none⟩) (Kd.V_mono HO107.out (fun k_ hk => (⟨hk, hk.2⟩ : _ ∧ k_ ≠ gb112))) (fun _ hk => hk.2) (.slice Ao12 t105.length co12)) (fun _ hk => hk.2) (.slice Ao14 t108.length co14)) (fun _ h_ => h_.1)))); (case side3 => exact (Kd.V_reads' HO107.out).2.1); (case side4 => refine (Kd.V_reads' (e := 4) (base := w.heap.size) (ok := fun k_ => (some k_ ≠ (.slice Ao9 t102.length co9 : Value).ownBlock ∧ k_ ≠ gb112)) (n := t108.length) (c := co14) ?_).2.2; exact (by (with_reducible repeat (first | apply Kd.V_alloc | apply Kd.V_drewN | apply Kd.V_drew)); exact (Kd.V_mono (Kd.V_far (p := ⟨gb112, 1, none⟩) (Kd.V_far (p := ⟨gb112, 0, none⟩) (Kd.V_mono HO110.out (fun k_ hk => (⟨hk, hk.2⟩ : _ ∧ k_ ≠ gb112))) (fun _ hk => hk.2) (.slice Ao12 t105.length co12)) (fun _ hk => hk.2) (.slice Ao14 t108.length co14)) (fun _ h_ => h_.1)))); (case side5 => exact (Kd.V_reads' HO110.out).2.1); rintro e w15 ⟨v114, rfl, ho0, hb⟩; refine ⟨_, rfl, ?_⟩; have n0_ := Aside0.mk (Kd.R_elder' (by (with_reducible repeat (first | apply Kd.R_alloc | apply Kd.R_drewN | apply Kd.R_drew)); exact (Kd.R_mono (Kd.R_far (p := ⟨gb112, 1, none⟩) (Kd.R_far (p := ⟨gb112, 0, none⟩) (Kd.R_types HO104.out BK112.out (by decide)) (fun _ hk => hk.2) (.slice Ao12 t105.length co12)) (fun _ hk => hk.2) (.slice Ao14 t108.length co14)) (fun _ h_ => h_.1))) (Kd.R_base ho0) hb); have n1_ := Aside0.mk (Kd.V_elder' (by (with_reducible repeat (first | apply Kd.V_alloc | apply Kd.V_drewN | apply Kd.V_drew)); exact (Kd.V_mono (Kd.V_far (p := ⟨gb112, 1, none⟩) (Kd.V_far (p := ⟨gb112, 0, none⟩) (Kd.V_mono HO107.out (fun k_ hk => (⟨hk, hk.2⟩ : _ ∧ k_ ≠ gb112))) (fun _ hk => hk.2) (.slice Ao12 t105.length co12)) (fun _ hk => hk.2) (.slice Ao14 t108.length co14)) (fun _ h_ => h_.1))) (Kd.R_base ho0) hb); have n2_ := Aside0.mk (Kd.V_elder' (by (with_reducible repeat (first | apply Kd.V_alloc | apply Kd.V_drewN | apply Kd.V_drew)); exact (Kd.V_mono (Kd.V_far (p := ⟨gb112, 1, none⟩) (Kd.V_far (p := ⟨gb112, 0, none⟩) (Kd.V_mono HO110.out (fun k_ hk => (⟨hk, hk.2⟩ : _ ∧ k_ ≠ gb112))) (fun _ hk => hk.2) (.slice Ao12 t105.length co12)) (fun _ hk => hk.2) (.slice Ao14 t108.length co14)) (fun _ h_ => h_.1))) (Kd.R_base ho0) hb); have n3_ := Aside0.mk (Kd.R_lower (Kd.R_new' ho0 (Kd.R_lt (by (with_reducible repeat (first | apply Kd.R_alloc | apply Kd.R_drewN | apply Kd.R_drew)); exact (Kd.R_mono (Kd.R_far (p := ⟨gb112, 1, none⟩) (Kd.R_far (p := ⟨gb112, 0, none⟩) (Kd.R_types HO104.out BK112.out (by decide)) (fun _ hk => hk.2) (.slice Ao12 t105.length co12)) (fun _ hk => hk.2) (.slice Ao14 t108.length co14)) (fun _ h_ => h_.1))))) (below_size (by repeat (first | (with_reducible first | exact HB.out | apply below_alloc | apply pw_below_drewN | apply below_drew1 | refine below_set ?_ GE112.out) | exact HB.out)))); have n4_ := Aside0.mk (blk_below (g := gb112) (o := .cells #[.slice Ao12 t105.length co12, .slice Ao14 t108.length co14] 28 (0, 0)) (by (with_reducible repeat (first | refine blk_drewN ?_ _ | refine blk_drew ?_ | refine blk_alloc ?_ _)); refine blk_put (cs := #[.slice Ao12 t105.length co12, .slice none 0 0]) ?_ 1 _ rfl; (with_reducible repeat (first | refine blk_drewN ?_ _ | refine blk_drew ?_ | refine blk_alloc ?_ _)); refine blk_put (cs := #[.slice none 0 0, .slice none 0 0]) ?_ 0 _ rfl; (with_reducible repeat (first | refine blk_drewN ?_ _ | refine blk_drew ?_ | refine blk_alloc ?_ _)); exact BK112.out) hb); have n5_ := Aside0.mk (below_step (by repeat (first | (with_reducible first | exact HB.out | apply below_alloc | apply pw_below_drewN | apply below_drew1 | refine below_set ?_ GE112.out) | exact HB.out)) hb); clear HO104; clear HO107; clear HO110; clear BK112; clear HB; have HO104 := n0_; have HO107 := n1_; have HO110 := n2_; have HO115 := n3_; have BK112 := n4_; have HB := n5_; clear n0_ n1_ n2_ n3_ n4_ n5_; (try clear hb); (try clear hb2); (try clear hk); (try clear hi); (try clear ho0)))
  go_loopg [11, 12, 13] k (fun kq v11 v12 v13 w' => ∃ (x11_1 : Int) (x12_1 : Int) (x13_1 : Int), v11 = .int .i64 x11_1 ∧ v12 = .int .i64 x12_1 ∧ v13 = .int .i64 x13_1 ∧ Aside0 (epitomelaw06_GapsLeast.l0 kq t101 t102 t111 t113 t116 x11_1 x12_1 x13_1 t105 t108 = some r) ∧ Aside0 (kq ≤ k) ∧ Aside0 (Kd.R k33 33 w' w.heap.size (fun k_ => some k_ ≠ (v114 : Value).ownBlock) (.slice Ao9 t102.length co9) t102) ∧ Aside0 (Kd.R k33 33 w' w.heap.size (fun k_ => some k_ ≠ ((.slice Ao9 t102.length co9) : Value).ownBlock) v114 t113) ∧ Aside0 (Kd.V Kd.string 9 w' w.heap.size (fun k_ => some k_ ≠ ((.slice Ao9 t102.length co9) : Value).ownBlock ∧ some k_ ≠ (v114 : Value).ownBlock ∧ k_ ≠ gb112) (.slice Ao12 t105.length co12) t105) ∧ Aside0 (Kd.V Kd.bool 4 w' w.heap.size (fun k_ => some k_ ≠ ((.slice Ao9 t102.length co9) : Value).ownBlock ∧ some k_ ≠ (v114 : Value).ownBlock ∧ k_ ≠ gb112) (.slice Ao14 t108.length co14) t108) ∧ Aside0 (w'.heap[gb112]? = some (.cells #[(.slice Ao12 t105.length co12), (.slice Ao14 t108.length co14)] 28 (0, 0))) ∧ Aside0 (Below w.heap.size w w'))
  case atStart => exact ⟨(0), (0), (0), (by first | rfl | (simp; done) | (simp [*]; done) | (simp [isEmpty_bne]; done)), (by first | rfl | (simp; done) | (simp [*]; done) | (simp [isEmpty_bne]; done)), (by first | rfl | (simp; done) | (simp [*]; done) | (simp [isEmpty_bne]; done)), H', ⟨Nat.le_refl _⟩, ⟨by (with_reducible repeat (first | apply Kd.R_alloc | apply Kd.R_drewN | apply Kd.R_drew)); exact Kd.R_mono HO104.out (fun _ hk => hk.2)⟩, ⟨by (with_reducible repeat (first | apply Kd.R_alloc | apply Kd.R_drewN | apply Kd.R_drew)); exact Kd.R_mono HO115.out (fun _ hk => hk.2)⟩, ⟨by (with_reducible repeat (first | apply Kd.V_alloc | apply Kd.V_drewN | apply Kd.V_drew)); exact Kd.V_mono HO107.out (fun _ hk => ⟨hk.1.1, ⟨hk.2, hk.1.2⟩⟩)⟩, ⟨by (with_reducible repeat (first | apply Kd.V_alloc | apply Kd.V_drewN | apply Kd.V_drew)); exact Kd.V_mono HO110.out (fun _ hk => ⟨hk.1.1, ⟨hk.2, hk.1.2⟩⟩)⟩, ⟨by (with_reducible repeat (first | refine blk_drewN ?_ _ | refine blk_drew ?_ | refine blk_alloc ?_ _)); exact BK112.out⟩, ⟨by repeat (first | (with_reducible first | exact HB.out | apply below_alloc | apply pw_below_drewN | apply below_drew1 | refine below_set ?_ GE112.out) | exact HB.out)⟩⟩
  case round =>
    clear H'
    try clear c1
    try clear p2
    try clear c3
    try clear p6
    try clear c9
    try clear c15
    try clear hcz13_0
    try clear hcz13_1
    try clear hfz13_0
    try clear hfz13_1
    obtain ⟨x11_1, x12_1, x13_1, rfl, rfl, rfl, HA, HK1, HO_6, HO_9, HO_113000, HO_113001, BK112, HB⟩ := hrel
    cases gk with
    | zero => exact absurd HA.out (by simp [epitomelaw06_GapsLeast.l0])
    | succ k1 =>
      have H := HA.out
      clear HA
      simp only [epitomelaw06_GapsLeast.l0] at H
      by_cases c16 : x13_1 < (t105.length : Int)
      · rw [if_pos c16] at H
        have c16b0 : decide (x13_1 < (t105.length : Int)) = true := decide_eq_true c16
        clear c16
        by_cases c17 : 0 ≤ x13_1
        · rw [if_pos c17] at H
          have c17b0 : decide (0 ≤ x13_1) = true := decide_eq_true c17
          clear c17
          have HC18 := Aside0.mk H
          clear H
          have hcz19_0 : wr.cell? ⟨gb112, 0, none⟩ = some (.slice Ao12 t105.length co12) := (blk_cell BK112.out 0).trans rfl
          have hcz19_1 : wr.cell? ⟨gb112, 1, none⟩ = some (.slice Ao14 t108.length co14) := (blk_cell BK112.out 1).trans rfl
          have hfz19_0 := blk_frozen BK112.out 0
          have hfz19_1 := blk_frozen BK112.out 1
          have p117 : 0 ≤ (x13_1 : Int) := of_decide_eq_true (by first | (with_reducible assumption) | assumption)
          have q117 : x13_1 < (t105.length : Int) := of_decide_eq_true (by first | (with_reducible assumption) | assumption)
          obtain ⟨ad117, e117, hx117_0⟩ := Kd.at_string (Kd.V_reads' HO_113000.out).2.2 x13_1 p117 q117
          cases e117
          replace p117 := eq_true p117
          replace q117 := eq_true q117
          go_upto_if 43 with (fail)
          go_cut [11, 12] (fun v11 v12 wc => ∃ (kq : Nat) (x11_17 : Int) (x12_17 : Int), v11 = .int .i64 x11_17 ∧ v12 = .int .i64 x12_17 ∧ Aside0 (epitomelaw06_GapsLeast.j1 kq t101 t102 t111 t113 t116 x11_17 x12_17 x13_1 t105 t108 = some r) ∧ Aside0 (kq ≤ k1) ∧ Aside0 (Kd.R k33 33 wc w.heap.size (fun k_ => some k_ ≠ (v114 : Value).ownBlock) (.slice Ao9 t102.length co9) t102) ∧ Aside0 (Kd.R k33 33 wc w.heap.size (fun k_ => some k_ ≠ ((.slice Ao9 t102.length co9) : Value).ownBlock) v114 t113) ∧ Aside0 (Kd.V Kd.string 9 wc w.heap.size (fun k_ => some k_ ≠ ((.slice Ao9 t102.length co9) : Value).ownBlock ∧ some k_ ≠ (v114 : Value).ownBlock ∧ k_ ≠ gb112) (.slice (some ad117) t105.length co12) t105) ∧ Aside0 (Kd.V Kd.bool 4 wc w.heap.size (fun k_ => some k_ ≠ ((.slice Ao9 t102.length co9) : Value).ownBlock ∧ some k_ ≠ (v114 : Value).ownBlock ∧ k_ ≠ gb112) (.slice Ao14 t108.length co14) t108) ∧ Aside0 (wc.heap[gb112]? = some (.cells #[(.slice (some ad117) t105.length co12), (.slice Ao14 t108.length co14)] 28 (0, 0))) ∧ Aside0 (Below w.heap.size w wc))
          case first =>
            have H := HC18.out
            clear HC18
            by_cases c20 : (rdOf ByteArray.empty t105 x13_1).toList = ([] : List UInt8)
            · rw [if_pos c20] at H
              have c20b0 : ((rdOf ByteArray.empty t105 x13_1).toList == ([] : List UInt8)) = true := beq_iff_eq.mpr c20
              (try (have c20b0e : ((rdOf ByteArray.empty t105 x13_1).toList.isEmpty) = true := by simpa using c20b0))
              have c20b1 : ((rdOf ByteArray.empty t105 x13_1).toList != ([] : List UInt8)) = false := bne_eq_false_iff_eq.mpr c20
              clear c20
              (first | rw [c20b0] | (simp only [i64_w, i32_w]; rw [c20b0]) | rw [c20b0e] | (simp only [i64_w, i32_w]; rw [c20b0e]) | skip)
              have H' := Aside0.mk H
              clear H
              go_wp2
              go_meet
              case rel => exact ⟨_, (x11_1), (x12_1), (by first | rfl | (simp; done) | (simp [*]; done) | (simp [isEmpty_bne]; done)), (by first | rfl | (simp; done) | (simp [*]; done) | (simp [isEmpty_bne]; done)), H', ⟨by have := HK1.out; first | omega | exact Nat.le_refl _⟩, ⟨by (with_reducible repeat (first | apply Kd.R_alloc | apply Kd.R_drewN | apply Kd.R_drew)); exact HO_6.out⟩, ⟨by (with_reducible repeat (first | apply Kd.R_alloc | apply Kd.R_drewN | apply Kd.R_drew)); exact HO_9.out⟩, ⟨by (with_reducible repeat (first | apply Kd.V_alloc | apply Kd.V_drewN | apply Kd.V_drew)); exact HO_113000.out⟩, ⟨by (with_reducible repeat (first | apply Kd.V_alloc | apply Kd.V_drewN | apply Kd.V_drew)); exact HO_113001.out⟩, ⟨by (with_reducible repeat (first | refine blk_drewN ?_ _ | refine blk_drew ?_ | refine blk_alloc ?_ _)); exact BK112.out⟩, ⟨by repeat (first | (with_reducible first | exact HB.out | apply below_alloc | apply pw_below_drewN | apply below_drew1 | refine below_set ?_ GE112.out) | exact HB.out)⟩⟩
            · rw [if_neg c20] at H
              have c20b0 : ((rdOf ByteArray.empty t105 x13_1).toList == ([] : List UInt8)) = false := beq_eq_false_iff_ne.mpr c20
              (try (have c20b0e : ((rdOf ByteArray.empty t105 x13_1).toList.isEmpty) = false := by simpa using c20b0))
              have c20b1 : ((rdOf ByteArray.empty t105 x13_1).toList != ([] : List UInt8)) = true := bne_iff_ne.mpr c20
              (first | rw [c20b0] | (simp only [i64_w, i32_w]; rw [c20b0]) | rw [c20b0e] | (simp only [i64_w, i32_w]; rw [c20b0e]) | skip)
              have H' := Aside0.mk H
              clear H
              go_wp2
              go_meet
              case rel => exact ⟨_, (wrap64 (x11_1 + 1)), (2), (by first | rfl | (simp; done) | (simp [*]; done) | (simp [isEmpty_bne]; done)), (by first | rfl | (simp; done) | (simp [*]; done) | (simp [isEmpty_bne]; done)), H', ⟨by have := HK1.out; first | omega | exact Nat.le_refl _⟩, ⟨by (with_reducible repeat (first | apply Kd.R_alloc | apply Kd.R_drewN | apply Kd.R_drew)); exact HO_6.out⟩, ⟨by (with_reducible repeat (first | apply Kd.R_alloc | apply Kd.R_drewN | apply Kd.R_drew)); exact HO_9.out⟩, ⟨by (with_reducible repeat (first | apply Kd.V_alloc | apply Kd.V_drewN | apply Kd.V_drew)); exact HO_113000.out⟩, ⟨by (with_reducible repeat (first | apply Kd.V_alloc | apply Kd.V_drewN | apply Kd.V_drew)); exact HO_113001.out⟩, ⟨by (with_reducible repeat (first | refine blk_drewN ?_ _ | refine blk_drew ?_ | refine blk_alloc ?_ _)); exact BK112.out⟩, ⟨by repeat (first | (with_reducible first | exact HB.out | apply below_alloc | apply pw_below_drewN | apply below_drew1 | refine below_set ?_ GE112.out) | exact HB.out)⟩⟩
          case rest =>
            clear HC18
            try clear c1
            try clear p1
            try clear q1
            try clear hx1
            try clear c2
            try clear p2
            try clear c3
            try clear p6
            try clear c9
            try clear p11
            try clear q11
            try clear hx11
            try clear c15
            try clear c16
            try clear c16b0
            try clear c17
            try clear c17b0
            try clear c18
            try clear c20
            try clear c20b0
            try clear c20b1
            try clear hcz13_0
            try clear hcz13_1
            try clear hcz19_0
            try clear hcz19_1
            try clear hfz13_0
            try clear hfz13_1
            try clear hfz19_0
            try clear hfz19_1
            try clear hx117_0
            try clear p117
            try clear p2
            try clear p6
            try clear q117
            obtain ⟨kq, x11_17, x12_17, rfl, rfl, HA, HJ17, HO_6, HO_9, HO_113000, HO_113001, BK112, HB⟩ := hcut
            cases kq with
            | zero => exact absurd HA.out (by simp [epitomelaw06_GapsLeast.j1])
            | succ kj17 =>
              have H := HA.out
              clear HA
              simp only [epitomelaw06_GapsLeast.j1] at H
              by_cases c21 : x13_1 < (t108.length : Int)
              · rw [if_pos c21] at H
                have c21b0 : decide (x13_1 < (t108.length : Int)) = true := decide_eq_true c21
                clear c21
                by_cases c22 : 0 ≤ x13_1
                · rw [if_pos c22] at H
                  have c22b0 : decide (0 ≤ x13_1) = true := decide_eq_true c22
                  clear c22
                  obtain ⟨bq23, hbq23⟩ : ∃ b_ : Bool, b_ = (rdOf false t108 x13_1) := ⟨_, rfl⟩
                  replace H : (if bq23 = true then (if 3 = x12_17 then (epitomelaw06_GapsLeast.l0 kj17 t101 t102 t111 t113 t116 x11_17 3 (wrap64 (x13_1 + 1)) t105 t108) else (epitomelaw06_GapsLeast.l0 kj17 t101 t102 t111 t113 t116 (wrap64 (x11_17 + 1)) 3 (wrap64 (x13_1 + 1)) t105 t108)) else (if 1 = x12_17 then (epitomelaw06_GapsLeast.l0 kj17 t101 t102 t111 t113 t116 x11_17 1 (wrap64 (x13_1 + 1)) t105 t108) else (epitomelaw06_GapsLeast.l0 kj17 t101 t102 t111 t113 t116 (wrap64 (x11_17 + 1)) 1 (wrap64 (x13_1 + 1)) t105 t108))) = some r := by rw [← hbq23] at H; exact H
                  have Nbq23 := Aside0.mk hbq23
                  clear hbq23
                  by_cases c24 : bq23 = true
                  · subst c24
                    have H1 : (if 3 = x12_17 then (epitomelaw06_GapsLeast.l0 kj17 t101 t102 t111 t113 t116 x11_17 3 (wrap64 (x13_1 + 1)) t105 t108) else (epitomelaw06_GapsLeast.l0 kj17 t101 t102 t111 t113 t116 (wrap64 (x11_17 + 1)) 3 (wrap64 (x13_1 + 1)) t105 t108)) = some r := by rw [if_pos rfl] at H; exact H
                    clear H
                    have H := H1
                    clear H1
                    by_cases c25 : 3 = x12_17
                    · rw [if_pos c25] at H
                      have c25b0 : (3 == x12_17) = true := beq_iff_eq.mpr c25
                      have c25b1 : (3 != x12_17) = false := bne_eq_false_iff_eq.mpr c25
                      clear c25
                      have H' := Aside0.mk H
                      clear H
                      have hcz26_0 : wc.cell? ⟨gb112, 0, none⟩ = some (.slice (some ad117) t105.length co12) := (blk_cell BK112.out 0).trans rfl
                      have hcz26_1 : wc.cell? ⟨gb112, 1, none⟩ = some (.slice Ao14 t108.length co14) := (blk_cell BK112.out 1).trans rfl
                      have hfz26_0 := blk_frozen BK112.out 0
                      have hfz26_1 := blk_frozen BK112.out 1
                      have p118 : 0 ≤ (x13_1 : Int) := of_decide_eq_true (by first | (with_reducible assumption) | assumption)
                      have q118 : x13_1 < (t108.length : Int) := of_decide_eq_true (by first | (with_reducible assumption) | assumption)
                      obtain ⟨ad118, e118, hx118_0⟩ := Kd.at_bool (Kd.V_reads' HO_113001.out).2.2 x13_1 p118 q118
                      (try rw [← Nbq23.out] at hx118_0)
                      cases e118
                      replace p118 := eq_true p118
                      replace q118 := eq_true q118
                      go_wp2
                      go_roundg kj17
                      case measure => have := HK1.out; have := HJ17.out; omega
                      case rel => exact ⟨(x11_17), (3), (wrap64 (x13_1 + 1)), (by first | rfl | (simp; done) | (simp [*]; done) | (simp [isEmpty_bne]; done)), (by first | rfl | (simp; done) | (simp [*]; done) | (simp [isEmpty_bne]; done)), (by first | rfl | (simp; done) | (simp [*]; done) | (simp [isEmpty_bne]; done)), H', ⟨by have := HK1.out; have := HJ17.out; omega⟩, ⟨by (with_reducible repeat (first | apply Kd.R_alloc | apply Kd.R_drewN | apply Kd.R_drew)); exact HO_6.out⟩, ⟨by (with_reducible repeat (first | apply Kd.R_alloc | apply Kd.R_drewN | apply Kd.R_drew)); exact HO_9.out⟩, ⟨by (with_reducible repeat (first | apply Kd.V_alloc | apply Kd.V_drewN | apply Kd.V_drew)); exact HO_113000.out⟩, ⟨by (with_reducible repeat (first | apply Kd.V_alloc | apply Kd.V_drewN | apply Kd.V_drew)); exact HO_113001.out⟩, ⟨by (with_reducible repeat (first | refine blk_drewN ?_ _ | refine blk_drew ?_ | refine blk_alloc ?_ _)); exact BK112.out⟩, ⟨by repeat (first | (with_reducible first | exact HB.out | apply below_alloc | apply pw_below_drewN | apply below_drew1 | refine below_set ?_ GE112.out) | exact HB.out)⟩⟩
                    · rw [if_neg c25] at H
                      have c25b0 : (3 == x12_17) = false := beq_eq_false_iff_ne.mpr c25
                      have c25b1 : (3 != x12_17) = true := bne_iff_ne.mpr c25
                      have H' := Aside0.mk H
                      clear H
                      have hcz27_0 : wc.cell? ⟨gb112, 0, none⟩ = some (.slice (some ad117) t105.length co12) := (blk_cell BK112.out 0).trans rfl
                      have hcz27_1 : wc.cell? ⟨gb112, 1, none⟩ = some (.slice Ao14 t108.length co14) := (blk_cell BK112.out 1).trans rfl
                      have hfz27_0 := blk_frozen BK112.out 0
                      have hfz27_1 := blk_frozen BK112.out 1
                      have p118 : 0 ≤ (x13_1 : Int) := of_decide_eq_true (by first | (with_reducible assumption) | assumption)
                      have q118 : x13_1 < (t108.length : Int) := of_decide_eq_true (by first | (with_reducible assumption) | assumption)
                      obtain ⟨ad118, e118, hx118_0⟩ := Kd.at_bool (Kd.V_reads' HO_113001.out).2.2 x13_1 p118 q118
                      (try rw [← Nbq23.out] at hx118_0)
                      cases e118
                      replace p118 := eq_true p118
                      replace q118 := eq_true q118
                      go_wp2
                      go_roundg kj17
                      case measure => have := HK1.out; have := HJ17.out; omega
                      case rel => exact ⟨(wrap64 (x11_17 + 1)), (3), (wrap64 (x13_1 + 1)), (by first | rfl | (simp; done) | (simp [*]; done) | (simp [isEmpty_bne]; done)), (by first | rfl | (simp; done) | (simp [*]; done) | (simp [isEmpty_bne]; done)), (by first | rfl | (simp; done) | (simp [*]; done) | (simp [isEmpty_bne]; done)), H', ⟨by have := HK1.out; have := HJ17.out; omega⟩, ⟨by (with_reducible repeat (first | apply Kd.R_alloc | apply Kd.R_drewN | apply Kd.R_drew)); exact HO_6.out⟩, ⟨by (with_reducible repeat (first | apply Kd.R_alloc | apply Kd.R_drewN | apply Kd.R_drew)); exact HO_9.out⟩, ⟨by (with_reducible repeat (first | apply Kd.V_alloc | apply Kd.V_drewN | apply Kd.V_drew)); exact HO_113000.out⟩, ⟨by (with_reducible repeat (first | apply Kd.V_alloc | apply Kd.V_drewN | apply Kd.V_drew)); exact HO_113001.out⟩, ⟨by (with_reducible repeat (first | refine blk_drewN ?_ _ | refine blk_drew ?_ | refine blk_alloc ?_ _)); exact BK112.out⟩, ⟨by repeat (first | (with_reducible first | exact HB.out | apply below_alloc | apply pw_below_drewN | apply below_drew1 | refine below_set ?_ GE112.out) | exact HB.out)⟩⟩
                  · replace c24 := Bool.eq_false_iff.mpr c24
                    subst c24
                    have H1 : (if 1 = x12_17 then (epitomelaw06_GapsLeast.l0 kj17 t101 t102 t111 t113 t116 x11_17 1 (wrap64 (x13_1 + 1)) t105 t108) else (epitomelaw06_GapsLeast.l0 kj17 t101 t102 t111 t113 t116 (wrap64 (x11_17 + 1)) 1 (wrap64 (x13_1 + 1)) t105 t108)) = some r := by rw [if_neg (show ¬ (false = true) by decide)] at H; exact H
                    clear H
                    have H := H1
                    clear H1
                    by_cases c28 : 1 = x12_17
                    · rw [if_pos c28] at H
                      have c28b0 : (1 == x12_17) = true := beq_iff_eq.mpr c28
                      have c28b1 : (1 != x12_17) = false := bne_eq_false_iff_eq.mpr c28
                      clear c28
                      have H' := Aside0.mk H
                      clear H
                      have hcz29_0 : wc.cell? ⟨gb112, 0, none⟩ = some (.slice (some ad117) t105.length co12) := (blk_cell BK112.out 0).trans rfl
                      have hcz29_1 : wc.cell? ⟨gb112, 1, none⟩ = some (.slice Ao14 t108.length co14) := (blk_cell BK112.out 1).trans rfl
                      have hfz29_0 := blk_frozen BK112.out 0
                      have hfz29_1 := blk_frozen BK112.out 1
                      have p118 : 0 ≤ (x13_1 : Int) := of_decide_eq_true (by first | (with_reducible assumption) | assumption)
                      have q118 : x13_1 < (t108.length : Int) := of_decide_eq_true (by first | (with_reducible assumption) | assumption)
                      obtain ⟨ad118, e118, hx118_0⟩ := Kd.at_bool (Kd.V_reads' HO_113001.out).2.2 x13_1 p118 q118
                      (try rw [← Nbq23.out] at hx118_0)
                      cases e118
                      replace p118 := eq_true p118
                      replace q118 := eq_true q118
                      go_wp2
                      go_roundg kj17
                      case measure => have := HK1.out; have := HJ17.out; omega
                      case rel => exact ⟨(x11_17), (1), (wrap64 (x13_1 + 1)), (by first | rfl | (simp; done) | (simp [*]; done) | (simp [isEmpty_bne]; done)), (by first | rfl | (simp; done) | (simp [*]; done) | (simp [isEmpty_bne]; done)), (by first | rfl | (simp; done) | (simp [*]; done) | (simp [isEmpty_bne]; done)), H', ⟨by have := HK1.out; have := HJ17.out; omega⟩, ⟨by (with_reducible repeat (first | apply Kd.R_alloc | apply Kd.R_drewN | apply Kd.R_drew)); exact HO_6.out⟩, ⟨by (with_reducible repeat (first | apply Kd.R_alloc | apply Kd.R_drewN | apply Kd.R_drew)); exact HO_9.out⟩, ⟨by (with_reducible repeat (first | apply Kd.V_alloc | apply Kd.V_drewN | apply Kd.V_drew)); exact HO_113000.out⟩, ⟨by (with_reducible repeat (first | apply Kd.V_alloc | apply Kd.V_drewN | apply Kd.V_drew)); exact HO_113001.out⟩, ⟨by (with_reducible repeat (first | refine blk_drewN ?_ _ | refine blk_drew ?_ | refine blk_alloc ?_ _)); exact BK112.out⟩, ⟨by repeat (first | (with_reducible first | exact HB.out | apply below_alloc | apply pw_below_drewN | apply below_drew1 | refine below_set ?_ GE112.out) | exact HB.out)⟩⟩
                    · rw [if_neg c28] at H
                      have c28b0 : (1 == x12_17) = false := beq_eq_false_iff_ne.mpr c28
                      have c28b1 : (1 != x12_17) = true := bne_iff_ne.mpr c28
                      have H' := Aside0.mk H
                      clear H
                      have hcz30_0 : wc.cell? ⟨gb112, 0, none⟩ = some (.slice (some ad117) t105.length co12) := (blk_cell BK112.out 0).trans rfl
                      have hcz30_1 : wc.cell? ⟨gb112, 1, none⟩ = some (.slice Ao14 t108.length co14) := (blk_cell BK112.out 1).trans rfl
                      have hfz30_0 := blk_frozen BK112.out 0
                      have hfz30_1 := blk_frozen BK112.out 1
                      have p118 : 0 ≤ (x13_1 : Int) := of_decide_eq_true (by first | (with_reducible assumption) | assumption)
                      have q118 : x13_1 < (t108.length : Int) := of_decide_eq_true (by first | (with_reducible assumption) | assumption)
                      obtain ⟨ad118, e118, hx118_0⟩ := Kd.at_bool (Kd.V_reads' HO_113001.out).2.2 x13_1 p118 q118
                      (try rw [← Nbq23.out] at hx118_0)
                      cases e118
                      replace p118 := eq_true p118
                      replace q118 := eq_true q118
                      go_wp2
                      go_roundg kj17
                      case measure => have := HK1.out; have := HJ17.out; omega
                      case rel => exact ⟨(wrap64 (x11_17 + 1)), (1), (wrap64 (x13_1 + 1)), (by first | rfl | (simp; done) | (simp [*]; done) | (simp [isEmpty_bne]; done)), (by first | rfl | (simp; done) | (simp [*]; done) | (simp [isEmpty_bne]; done)), (by first | rfl | (simp; done) | (simp [*]; done) | (simp [isEmpty_bne]; done)), H', ⟨by have := HK1.out; have := HJ17.out; omega⟩, ⟨by (with_reducible repeat (first | apply Kd.R_alloc | apply Kd.R_drewN | apply Kd.R_drew)); exact HO_6.out⟩, ⟨by (with_reducible repeat (first | apply Kd.R_alloc | apply Kd.R_drewN | apply Kd.R_drew)); exact HO_9.out⟩, ⟨by (with_reducible repeat (first | apply Kd.V_alloc | apply Kd.V_drewN | apply Kd.V_drew)); exact HO_113000.out⟩, ⟨by (with_reducible repeat (first | apply Kd.V_alloc | apply Kd.V_drewN | apply Kd.V_drew)); exact HO_113001.out⟩, ⟨by (with_reducible repeat (first | refine blk_drewN ?_ _ | refine blk_drew ?_ | refine blk_alloc ?_ _)); exact BK112.out⟩, ⟨by repeat (first | (with_reducible first | exact HB.out | apply below_alloc | apply pw_below_drewN | apply below_drew1 | refine below_set ?_ GE112.out) | exact HB.out)⟩⟩
                · rw [if_neg c22] at H
                  exact absurd H (by simp)
              · rw [if_neg c21] at H
                have c21b0 : decide (x13_1 < (t108.length : Int)) = false := decide_eq_false c21
                clear c21
                have H' := Aside0.mk H
                clear H
                have hcz31_0 : wc.cell? ⟨gb112, 0, none⟩ = some (.slice (some ad117) t105.length co12) := (blk_cell BK112.out 0).trans rfl
                have hcz31_1 : wc.cell? ⟨gb112, 1, none⟩ = some (.slice Ao14 t108.length co14) := (blk_cell BK112.out 1).trans rfl
                have hfz31_0 := blk_frozen BK112.out 0
                have hfz31_1 := blk_frozen BK112.out 1
                go_wp2
                go_roundg kj17
                case measure => have := HK1.out; have := HJ17.out; omega
                case rel => exact ⟨(x11_17), (x12_17), (wrap64 (x13_1 + 1)), (by first | rfl | (simp; done) | (simp [*]; done) | (simp [isEmpty_bne]; done)), (by first | rfl | (simp; done) | (simp [*]; done) | (simp [isEmpty_bne]; done)), (by first | rfl | (simp; done) | (simp [*]; done) | (simp [isEmpty_bne]; done)), H', ⟨by have := HK1.out; have := HJ17.out; omega⟩, ⟨by (with_reducible repeat (first | apply Kd.R_alloc | apply Kd.R_drewN | apply Kd.R_drew)); exact HO_6.out⟩, ⟨by (with_reducible repeat (first | apply Kd.R_alloc | apply Kd.R_drewN | apply Kd.R_drew)); exact HO_9.out⟩, ⟨by (with_reducible repeat (first | apply Kd.V_alloc | apply Kd.V_drewN | apply Kd.V_drew)); exact HO_113000.out⟩, ⟨by (with_reducible repeat (first | apply Kd.V_alloc | apply Kd.V_drewN | apply Kd.V_drew)); exact HO_113001.out⟩, ⟨by (with_reducible repeat (first | refine blk_drewN ?_ _ | refine blk_drew ?_ | refine blk_alloc ?_ _)); exact BK112.out⟩, ⟨by repeat (first | (with_reducible first | exact HB.out | apply below_alloc | apply pw_below_drewN | apply below_drew1 | refine below_set ?_ GE112.out) | exact HB.out)⟩⟩
        · rw [if_neg c17] at H
          exact absurd H (by simp)
      · rw [if_neg c16] at H
        have c16b0 : decide (x13_1 < (t105.length : Int)) = false := decide_eq_false c16
        clear c16
        by_cases c32 : t101 = true
        · subst c32
          have H1 : (if t111 = 0 then (if t116 = 0 then (if (t113.length : Int) = x11_1 then (some (decide ((t102.length : Int) ≥ x11_1))) else (some false)) else (some false)) else (some false)) = some r := by rw [if_pos rfl] at H; exact H
          clear H
          have H := H1
          clear H1
          by_cases c33 : t111 = 0
          · rw [if_pos c33] at H
            have c33b0 : (t111 == 0) = true := beq_iff_eq.mpr c33
            have c33b1 : (t111 != 0) = false := bne_eq_false_iff_eq.mpr c33
            clear c33
            by_cases c34 : t116 = 0
            · rw [if_pos c34] at H
              have c34b0 : (t116 == 0) = true := beq_iff_eq.mpr c34
              have c34b1 : (t116 != 0) = false := bne_eq_false_iff_eq.mpr c34
              clear c34
              by_cases c35 : (t113.length : Int) = x11_1
              · rw [if_pos c35] at H
                have c35b0 : ((t113.length : Int) == x11_1) = true := beq_iff_eq.mpr c35
                have c35b1 : ((t113.length : Int) != x11_1) = false := bne_eq_false_iff_eq.mpr c35
                clear c35
                obtain rfl := Option.some.inj H
                have hcz36_0 : wr.cell? ⟨gb112, 0, none⟩ = some (.slice Ao12 t105.length co12) := (blk_cell BK112.out 0).trans rfl
                have hcz36_1 : wr.cell? ⟨gb112, 1, none⟩ = some (.slice Ao14 t108.length co14) := (blk_cell BK112.out 1).trans rfl
                have hfz36_0 := blk_frozen BK112.out 0
                have hfz36_1 := blk_frozen BK112.out 1
                obtain ⟨Ao37, co37, eo37⟩ := Kd.R_slice HO_9.out
                subst eo37
                go_wp2
                go_ret
                exact ⟨by first | rfl | (simp [errW_none, errW_some] <;> rfl) | (simp [*, errW_none, errW_some] <;> rfl), by repeat (first | (with_reducible first | exact HB.out | apply below_alloc | apply pw_below_drewN | apply below_drew1 | refine below_set ?_ GE112.out) | exact HB.out)⟩
              · rw [if_neg c35] at H
                have c35b0 : ((t113.length : Int) == x11_1) = false := beq_eq_false_iff_ne.mpr c35
                have c35b1 : ((t113.length : Int) != x11_1) = true := bne_iff_ne.mpr c35
                obtain rfl := Option.some.inj H
                have hcz38_0 : wr.cell? ⟨gb112, 0, none⟩ = some (.slice Ao12 t105.length co12) := (blk_cell BK112.out 0).trans rfl
                have hcz38_1 : wr.cell? ⟨gb112, 1, none⟩ = some (.slice Ao14 t108.length co14) := (blk_cell BK112.out 1).trans rfl
                have hfz38_0 := blk_frozen BK112.out 0
                have hfz38_1 := blk_frozen BK112.out 1
                obtain ⟨Ao39, co39, eo39⟩ := Kd.R_slice HO_9.out
                subst eo39
                go_wp2
                go_ret
                exact ⟨by first | rfl | (simp [errW_none, errW_some] <;> rfl) | (simp [*, errW_none, errW_some] <;> rfl), by repeat (first | (with_reducible first | exact HB.out | apply below_alloc | apply pw_below_drewN | apply below_drew1 | refine below_set ?_ GE112.out) | exact HB.out)⟩
            · rw [if_neg c34] at H
              have c34b0 : (t116 == 0) = false := beq_eq_false_iff_ne.mpr c34
              have c34b1 : (t116 != 0) = true := bne_iff_ne.mpr c34
              obtain rfl := Option.some.inj H
              have hcz40_0 : wr.cell? ⟨gb112, 0, none⟩ = some (.slice Ao12 t105.length co12) := (blk_cell BK112.out 0).trans rfl
              have hcz40_1 : wr.cell? ⟨gb112, 1, none⟩ = some (.slice Ao14 t108.length co14) := (blk_cell BK112.out 1).trans rfl
              have hfz40_0 := blk_frozen BK112.out 0
              have hfz40_1 := blk_frozen BK112.out 1
              go_wp2
              go_ret
              exact ⟨by first | rfl | (simp [errW_none, errW_some] <;> rfl) | (simp [*, errW_none, errW_some] <;> rfl), by repeat (first | (with_reducible first | exact HB.out | apply below_alloc | apply pw_below_drewN | apply below_drew1 | refine below_set ?_ GE112.out) | exact HB.out)⟩
          · rw [if_neg c33] at H
            have c33b0 : (t111 == 0) = false := beq_eq_false_iff_ne.mpr c33
            have c33b1 : (t111 != 0) = true := bne_iff_ne.mpr c33
            obtain rfl := Option.some.inj H
            have hcz41_0 : wr.cell? ⟨gb112, 0, none⟩ = some (.slice Ao12 t105.length co12) := (blk_cell BK112.out 0).trans rfl
            have hcz41_1 : wr.cell? ⟨gb112, 1, none⟩ = some (.slice Ao14 t108.length co14) := (blk_cell BK112.out 1).trans rfl
            have hfz41_0 := blk_frozen BK112.out 0
            have hfz41_1 := blk_frozen BK112.out 1
            go_wp2
            go_ret
            exact ⟨by first | rfl | (simp [errW_none, errW_some] <;> rfl) | (simp [*, errW_none, errW_some] <;> rfl), by repeat (first | (with_reducible first | exact HB.out | apply below_alloc | apply pw_below_drewN | apply below_drew1 | refine below_set ?_ GE112.out) | exact HB.out)⟩
        · replace c32 := Bool.eq_false_iff.mpr c32
          subst c32
          have H1 : (some false) = some r := by rw [if_neg (show ¬ (false = true) by decide)] at H; exact H
          clear H
          have H := H1
          clear H1
          obtain rfl := Option.some.inj H
          have hcz42_0 : wr.cell? ⟨gb112, 0, none⟩ = some (.slice Ao12 t105.length co12) := (blk_cell BK112.out 0).trans rfl
          have hcz42_1 : wr.cell? ⟨gb112, 1, none⟩ = some (.slice Ao14 t108.length co14) := (blk_cell BK112.out 1).trans rfl
          have hfz42_0 := blk_frozen BK112.out 0
          have hfz42_1 := blk_frozen BK112.out 1
          go_wp2
          go_ret
          exact ⟨by first | rfl | (simp [errW_none, errW_some] <;> rfl) | (simp [*, errW_none, errW_some] <;> rfl), by repeat (first | (with_reducible first | exact HB.out | apply below_alloc | apply pw_below_drewN | apply below_drew1 | refine below_set ?_ GE112.out) | exact HB.out)⟩
end Go.Proofs.YtkgicpnnlkcaeaaDoor.F
end
