import Derived.Test.YtkefbljogjcodaaDoorKCPlaceGapsA
import Derived.Below
import Derived.Deep.Draws
import Derived.Deep.AppendLies
import Derived.Maps.AppendAt
import Derived.OwnWalk
import Derived.Laws.BytesArg
import Derived.Laws.MakeOwn
import Derived.Laws.OwnMore
import Derived.Deep.OwnRows
import Derived.Tactics
import Derived.Lib.ConvBytes
import Derived.Laws.Slices
import Derived.WalkKit
import Derived.KernelRfl
import Derived.RowKit3
import Derived.Deep.LoopGhost
import Derived.Deep.QuietTactic
import Derived.BigQuiet
import Derived.WideLaws
import Derived.Deep.DeepCutAuto
import Derived.Deep.CutBlock
import Derived.Deep.RegionHeld3
import Derived.Laws.Rows
import Derived.Lib.AppendStr
import Derived.ArgAppend
import Derived.Laws.IdiomCopy
import Derived.RowKit
import Derived.OrdersHeld
import Derived.Laws.BitsLemmas
import Derived.Laws.StructEq
import Derived.Test.YtkefbljogjcodaaDoorProg
import Derived.Handy
import Derived.Shelf.Unicode.DecodeSlow
import Derived.Ground.NamesProg
import Derived.Shelf.Unicode.ValidAny
import Derived.Laws.RangeString
import Derived.Laws.RangeAny
import Derived.Lib.RuneCount
import Derived.RangeFuncNested
import Derived.RangeFuncBound
import Derived.RangeFuncCalls
import Derived.RangeFuncLeaves
import Derived.Shelf.Abstract
import Derived.Shelf.RegionOpen
import Derived.OwnWalkIn
import Derived.TacticsInMore
import Derived.LoopNIn
import Derived.LoopIn
section
namespace Go.Proofs.YtkefbljogjcodaaDoor.F
open Go.RowKit Go.Proofs.YtkefbljogjcodaaDoorW.PrintWords Go.Proofs.YtkefbljogjcodaaDoorW.PrintLast Go.Proofs.YtkefbljogjcodaaDoorW.PrintMore
attribute [local go_sem] max2_int min2_int max_two min_two max_three min_three max_four min_four
set_option linter.unusedVariables false
set_option linter.unusedSimpArgs false
def errW : Option Int → Value
  | none => .nilIface
  | some c => .iface 0 (.int .i64 c)
theorem errW_none : errW none = .nilIface := rfl
theorem errW_some (c : Int) : errW (some c) = .iface 0 (.int .i64 c) := rfl
theorem info3 : (Tryd.prog.info? 3).map (fun i => (i.zero, i.size, i.bytes)) = some (some (.int .i64 0), 1, 8) := by kernel_rfl
theorem info5 : (Tryd.prog.info? 5).map (fun i => (i.zero, i.size, i.bytes)) = some (some (.int .u8 0), 1, 1) := by kernel_rfl
theorem info21 : (Tryd.prog.info? 21).map (fun i => (i.zero, i.size, i.bytes)) = some (some (.int .i32 0), 1, 4) := by kernel_rfl
theorem info26 : (Tryd.prog.info? 26).map (fun i => (i.zero, i.size, i.bytes)) = some (some (.agg #[(.int .i64 0), (.int .i64 0), (.string ⟨#[]⟩)]), 3, 32) := by kernel_rfl
theorem cell_setCell_isSome (w : World) (a b : Addr) (v : Value) : ((w.setCell a v).cell? b).isSome = (w.cell? b).isSome := by
  unfold World.setCell World.cell?
  rw [Array.getElem?_modify]
  cases hh : w.heap[b.block]? with
  | none => by_cases h : a.block = b.block <;> simp [h]
  | some o =>
    by_cases h : a.block = b.block
    · cases o with
      | cells c e f =>
        cases hs : b.spot <;> cases hs2 : a.spot <;> simp [h, Array.getElem?_setIfInBounds]
        split
        · next he =>
          by_cases hb : b.off < c.size
          · simp [he, hb]
          · simp [he, hb]
        · rfl
      | _ => simp [h]
    · simp [h]
theorem isEmpty_bne (l : List UInt8) : (l != []) = !l.isEmpty := by cases l <;> rfl
structure S26 where
  f0 : Int
  f1 : Int
  f2 : ByteArray
def z26 : S26 := ⟨(0 : Int), (0 : Int), (⟨#[]⟩ : ByteArray)⟩
def k26 : Kd S26 := Kd.iso (Kd.pair (Kd.int .i64) (Kd.pair (Kd.int .i64) Kd.string)) (fun x : S26 => (x.f0, x.f1, x.f2))
theorem k26_open {w : World} {x : S26} {cs : List Value} (h : k26.K w x cs) : cs = [.int .i64 x.f0, .int .i64 x.f1, .string x.f2] := by
  obtain ⟨_, _, rfl, rfl, ⟨_, _, rfl, rfl, rfl⟩⟩ := h
  exact rfl
theorem k26_mkM (w : World) (base : Nat) (ok : Nat → Prop) (x : S26)  : k26.M w base ok x [.int .i64 x.f0, .int .i64 x.f1, .string x.f2] := ⟨[.int .i64 x.f0], [.int .i64 x.f1, .string x.f2], rfl, rfl, ⟨[.int .i64 x.f1], [.string x.f2], rfl, rfl, rfl⟩⟩
def rd_T26 (xs : List S26) (i : Int) : S26 := xs.getD i.toNat z26
theorem at_T26 {w : World} {A : Option Addr} {n : Nat} {xs : List S26} (h : Kd.C k26 w A n xs) (i : Int) (h0 : 0 ≤ i) (h1 : i < n) : ∃ ad , A = some ad ∧ w.cell? (ad.add (i.toNat * 3)) = some (.int .i64 (rd_T26 xs i).f0) ∧ w.cell? ⟨(ad.add (i.toNat * 3)).block, (ad.add (i.toNat * 3)).off + 1, none⟩ = some (.int .i64 (rd_T26 xs i).f1) ∧ w.cell? ⟨(ad.add (i.toNat * 3)).block, (ad.add (i.toNat * 3)).off + 2, none⟩ = some (.string (rd_T26 xs i).f2) := by
  obtain ⟨ad, c, e, _, hK, hc0⟩ := Kd.C_get h z26 i h0 h1
  have hc : ∀ j u, c[j]? = some u → w.cell? (ad.add (i.toNat * 3 + j)) = some u := hc0
  obtain rfl := k26_open hK
  exact ⟨ad, e, hc 0 _ rfl, by rw [← add_field _ _ 1 (by omega)]; exact hc 1 _ rfl, by rw [← add_field _ _ 2 (by omega)]; exact hc 2 _ rfl⟩
end Go.Proofs.YtkefbljogjcodaaDoor.F
end
section
namespace Go.Proofs.YtkefbljogjcodaaDoor.F
open Go.RowKit Go.Proofs.YtkefbljogjcodaaDoorW.PrintWords Go.Proofs.YtkefbljogjcodaaDoorW.PrintLast Go.Proofs.YtkefbljogjcodaaDoorW.PrintMore
set_option linter.unusedVariables false
set_option linter.unusedSimpArgs false
theorem size_alloc (w : World) (o : Obj) : (w.alloc o).heap.size = w.heap.size + 1 := by
  show (w.heap.push o).size = _
  exact Array.size_push _
structure Glob (w : World) : Prop where
  k2 : w.cell? ⟨0, 2, none⟩ = some (.bool true)
  k3 : w.cell? ⟨0, 3, none⟩ = some (.bool true)
  k4 : w.cell? ⟨0, 4, none⟩ = some (.bool false)
  k5 : w.cell? ⟨0, 5, none⟩ = some (.bool false)
  k6 : w.cell? ⟨0, 6, none⟩ = some (.bool true)
  k7 : w.cell? ⟨0, 7, none⟩ = some (.bool false)
  tabs : Lib.Utf8Tabs 1 2 w
theorem glob_cell {w0 w : World} {a : Addr} {v : Value} (hb : Below w0.heap.size w0 w) (h : w0.cell? a = some v) : w.cell? a = some v := (hb.cell (World.block_lt_of_cell? w0 _ h)).trans h
theorem Glob.below {w0 w : World} (h : Glob w0) (hb : Below w0.heap.size w0 w) : Glob w :=
  ⟨glob_cell hb h.k2, glob_cell hb h.k3, glob_cell hb h.k4, glob_cell hb h.k5, glob_cell hb h.k6, glob_cell hb h.k7,
    fun c hc => glob_cell hb (h.tabs.1 c hc), fun i hi => ⟨glob_cell hb (h.tabs.2 i hi).1, glob_cell hb (h.tabs.2 i hi).2⟩⟩
theorem Glob.drawn {w0 w : World} (h : Glob w0) (hd : Drawn0 w0 w) : Glob w := by
  obtain ⟨n, rfl⟩ := hd.out
  exact h.below (pw_below_drewN (Below.refl _ _) n)
def span_of.f (a0 a1 : Int) (a2 : ByteArray) : Option (Bool × Bool × Bool) :=
  if a0 = 1 then some (true, true, true) else if a0 = 2 then some (false, false, true) else if a0 = 3 then some (true, false, true) else some (false, false, false)
theorem glob_alloc {w : World} {a : Addr} {v : Value} (o : Obj) (h : w.cell? a = some v) : (w.alloc o).cell? a = some v := glob_cell (below_alloc (Below.refl _ _) o) h
set_option maxHeartbeats 2000000 in
theorem span_of.calls (a0 a1 : Int) (a2 : ByteArray) (r1 r2 r3 : Bool) (w : World) (hG : Glob w) (h : span_of.f a0 a1 a2 = some (r1, r2, r3)) :
    Calls Tryd.prog 83 #[.agg #[.int .i64 a0, .int .i64 a1, .string a2]] w fun e w' => e = .returned (.tuple #[.agg #[.bool r1, .bool r2], .bool r3]) ∧ Below w.heap.size w w' := by
  have HG := Aside0.mk hG
  clear hG
  unfold span_of.f at h
  by_cases c1 : a0 = 1
  · subst c1
    obtain ⟨rfl, rfl, rfl⟩ : true = r1 ∧ true = r2 ∧ true = r3 := by simpa using h
    clear h
    have h2 := glob_alloc (Obj.cells #[.int .i64 1, .int .i64 a1, .string a2] 26) HG.out.k2
    have h3 := glob_alloc (Obj.cells #[.int .i64 1, .int .i64 a1, .string a2] 26) HG.out.k3
    have h4 := glob_alloc (Obj.cells #[.bool false, .bool false] 102) h2
    have h5 := glob_alloc (Obj.cells #[.bool false, .bool false] 102) h3
    go_enter Tryd.func83, Tryd.ntmps83
    go_wp2
    exact bodyPost_ret (v := .tuple #[.agg #[.bool true, .bool true], .bool true]) (by simp [results, Tryd.results83, go_sem]) rfl ⟨rfl, by repeat (first | exact Below.refl _ _ | apply below_alloc)⟩
  · by_cases c2 : a0 = 2
    · subst c2
      obtain ⟨rfl, rfl, rfl⟩ : false = r1 ∧ false = r2 ∧ true = r3 := by simpa using h
      clear h
      have h2 := glob_alloc (Obj.cells #[.int .i64 2, .int .i64 a1, .string a2] 26) HG.out.k4
      have h3 := glob_alloc (Obj.cells #[.int .i64 2, .int .i64 a1, .string a2] 26) HG.out.k5
      have h4 := glob_alloc (Obj.cells #[.bool false, .bool false] 102) h2
      have h5 := glob_alloc (Obj.cells #[.bool false, .bool false] 102) h3
      go_enter Tryd.func83, Tryd.ntmps83
      go_wp2
      exact bodyPost_ret (v := .tuple #[.agg #[.bool false, .bool false], .bool true]) (by simp [results, Tryd.results83, go_sem]) rfl ⟨rfl, by repeat (first | exact Below.refl _ _ | apply below_alloc)⟩
    · by_cases c3 : a0 = 3
      · subst c3
        obtain ⟨rfl, rfl, rfl⟩ : true = r1 ∧ false = r2 ∧ true = r3 := by simpa using h
        clear h
        have h2 := glob_alloc (Obj.cells #[.int .i64 3, .int .i64 a1, .string a2] 26) HG.out.k6
        have h3 := glob_alloc (Obj.cells #[.int .i64 3, .int .i64 a1, .string a2] 26) HG.out.k7
        have h4 := glob_alloc (Obj.cells #[.bool false, .bool false] 102) h2
        have h5 := glob_alloc (Obj.cells #[.bool false, .bool false] 102) h3
        go_enter Tryd.func83, Tryd.ntmps83
        go_wp2
        exact bodyPost_ret (v := .tuple #[.agg #[.bool true, .bool false], .bool true]) (by simp [results, Tryd.results83, go_sem]) rfl ⟨rfl, by repeat (first | exact Below.refl _ _ | apply below_alloc)⟩
      · rw [if_neg c1, if_neg c2, if_neg c3] at h
        obtain ⟨rfl, rfl, rfl⟩ : false = r1 ∧ false = r2 ∧ false = r3 := by simpa using h
        clear h
        by_cases c4 : a0 < 1
        · have d1 : decide (a0 < 1) = true := decide_eq_true c4
          clear c1 c2 c3 c4
          go_enter Tryd.func83, Tryd.ntmps83
          go_wp2
          exact bodyPost_ret (v := .tuple #[.agg #[.bool false, .bool false], .bool false]) (by simp [results, Tryd.results83, go_sem]) rfl ⟨rfl, by repeat (first | exact Below.refl _ _ | apply below_alloc)⟩
        · have d1 : decide (a0 < 1) = false := decide_eq_false c4
          have d2 : decide (3 < a0) = true := decide_eq_true (by omega)
          clear c1 c2 c3 c4
          go_enter Tryd.func83, Tryd.ntmps83
          go_wp2
          exact bodyPost_ret (v := .tuple #[.agg #[.bool false, .bool false], .bool false]) (by simp [results, Tryd.results83, go_sem]) rfl ⟨rfl, by repeat (first | exact Below.refl _ _ | apply below_alloc)⟩
end Go.Proofs.YtkefbljogjcodaaDoor.F
end
section
namespace Go.Proofs.YtkefbljogjcodaaDoor.F
open Go.RowKit Go.Proofs.YtkefbljogjcodaaDoorW.PrintWords Go.Proofs.YtkefbljogjcodaaDoorW.PrintLast Go.Proofs.YtkefbljogjcodaaDoorW.PrintMore
attribute [local go_sem] max2_int min2_int max_two min_two max_three min_three max_four min_four cell_setCell_isSome
set_option linter.unusedVariables false
set_option linter.unusedSimpArgs false
def span_In.f (a0_0 : Int) (a0_1 : Int) (a0_2 : ByteArray) : Option (Int) := (span_of.f a0_0 a0_1 a0_2).bind fun bt102 => (if bt102.1 = true then (some a0_1) else (some 0))
set_option maxHeartbeats 8000000 in
set_option maxRecDepth 100000 in
theorem span_In.calls (a0_0 : Int) (a0_1 : Int) (a0_2 : ByteArray) (r : Int) (w : World) (hG : Glob w) (h : span_In.f a0_0 a0_1 a0_2 = some r) :
    Calls Tryd.prog 80 #[.agg #[.int .i64 a0_0, .int .i64 a0_1, .string a0_2]] w fun e w' => e = .returned (.int .i64 r) ∧ Below w.heap.size w w' := by
  have hu26 := Tryd.underlying26
  have hu102 := Tryd.underlying102
  have HG := Aside0.mk hG
  clear hG
  have HB := Aside0.mk (Below.refl w.heap.size w)
  have H : ((span_of.f a0_0 a0_1 a0_2).bind fun bt102 => (if bt102.1 = true then (some a0_1) else (some 0))) = some r := h
  clear h
  replace H := Option.bind_eq_some_iff.mp H
  obtain ⟨⟨t102, t103, t104⟩, A20, H⟩ := H
  replace H : (if t102 = true then (some a0_1) else (some 0)) = some r := H
  have A2 := Aside0.mk A20
  clear A20
  by_cases c3 : t102 = true
  · subst c3
    have H1 : (some a0_1) = some r := by rw [if_pos rfl] at H; exact H
    clear H
    have H := H1
    clear H1
    obtain rfl := Option.some.inj H
    go_enter Tryd.func80, Tryd.ntmps80
    go_wp2_with (first | ((with_reducible refine gate_dst (N := 1) rfl ?_); refine box_event ?hg (N := 1) ?hd (cs := #[.int .i64 a0_0, .int .i64 a0_1, .string a0_2]) (t := 26) ?hr ?_; (case hd => rfl); (case hg => rfl); (case hr => first | (go_simp; done) | (go_simp; rfl)); intro gb101 hg w4 hbox hb; have n0_ := Aside0.mk (below_step (by repeat (first | (with_reducible first | exact HB.out | apply below_alloc | apply pw_below_drewN | apply below_drew1) | exact HB.out)) hb); have n1_ := Aside0.mk (hbox); have n2_ := Aside0.mk ((by rw [hg]; exact (below_size (by repeat (first | (with_reducible first | exact HB.out | apply below_alloc | apply pw_below_drewN | apply below_drew1) | exact HB.out))) : w.heap.size ≤ gb101)); have n3_ := Aside0.mk ((by rw [hg]; exact (below_size (by repeat (first | (with_reducible first | exact HB.out | apply below_alloc | apply pw_below_drewN | apply below_drew1) | exact HB.out))) : w.heap.size ≤ gb101)); clear HB; have HB := n0_; have BK101 := n1_; have GW101 := n2_; have GE101 := n3_; clear n0_ n1_ n2_ n3_; clear hb hbox hg; have hcz5_0 : w4.cell? ⟨gb101, 0, none⟩ = some (.int .i64 a0_0) := (blk_cell BK101.out 0).trans rfl; have hcz5_1 : w4.cell? ⟨gb101, 1, none⟩ = some (.int .i64 a0_1) := (blk_cell BK101.out 1).trans rfl; have hcz5_2 : w4.cell? ⟨gb101, 2, none⟩ = some (.string a0_2) := (blk_cell BK101.out 2).trans rfl; have hfz5_0 := blk_frozen BK101.out 0; have hfz5_1 := blk_frozen BK101.out 1; have hfz5_2 := blk_frozen BK101.out 2) | ((with_reducible refine gate_callee (f := 83) rfl ?_); refine goesL_ (some 7) rfl rfl Tryd.func83 (by kernel_rfl) rfl #[.agg #[.int .i64 a0_0, .int .i64 a0_1, .string a0_2]] rfl (by (try simp only [List.map_toArray, List.map_cons, List.map_nil]); first | done | rfl | (simp only [List.length_drop, List.length_take]; rfl)) ?_; (with_reducible refine (span_of.calls a0_0 a0_1 a0_2 true t103 t104 _ ?side1 A2.out).mono ?_); (case side1 => first | (with_reducible exact HG.out) | exact Glob.below HG.out (by repeat (first | (with_reducible first | exact HB.out | apply below_alloc | apply pw_below_drewN | apply below_drew1 | refine below_set ?_ GE101.out) | exact HB.out)) | exact Glob.drawn HG.out (by repeat (first | exact Drawn0.refl _ | apply Drawn0.step))); rintro e w6 ⟨rfl, hb⟩; refine ⟨_, rfl, ?_⟩; have n0_ := Aside0.mk (blk_below (g := gb101) (o := .cells #[.int .i64 a0_0, .int .i64 a0_1, .string a0_2] 26 (0, 0)) (by (with_reducible repeat (first | refine blk_drewN ?_ _ | refine blk_drew ?_ | refine blk_alloc ?_ _)); exact BK101.out) hb); have n1_ := Aside0.mk (below_step (by repeat (first | (with_reducible first | exact HB.out | apply below_alloc | apply pw_below_drewN | apply below_drew1 | refine below_set ?_ GE101.out) | exact HB.out)) hb); clear BK101; clear HB; have BK101 := n0_; have HB := n1_; clear n0_ n1_; (try clear hb); (try clear hb2); (try clear hk); (try clear hi)) | ((with_reducible refine gate_dst (N := 3) rfl ?_); refine box_event ?hg (N := 3) ?hd (cs := #[.bool false, .bool false]) (t := 102) ?hr ?_; (case hd => rfl); (case hg => rfl); (case hr => first | (go_simp; done) | (go_simp; rfl)); intro gb105 hg w7 hbox hb; have n0_ := Aside0.mk (blk_below (g := gb101) (o := .cells #[.int .i64 a0_0, .int .i64 a0_1, .string a0_2] 26 (0, 0)) (by (with_reducible repeat (first | refine blk_drewN ?_ _ | refine blk_drew ?_ | refine blk_alloc ?_ _)); exact BK101.out) hb); have n1_ := Aside0.mk (below_step (by repeat (first | (with_reducible first | exact HB.out | apply below_alloc | apply pw_below_drewN | apply below_drew1 | refine below_set ?_ GE101.out) | exact HB.out)) hb); have n2_ := Aside0.mk (hbox); have n3_ := Aside0.mk ((by rw [hg]; exact (below_size (by repeat (first | (with_reducible first | exact HB.out | apply below_alloc | apply pw_below_drewN | apply below_drew1 | refine below_set ?_ GE101.out) | exact HB.out))) : w.heap.size ≤ gb105)); have n4_ := Aside0.mk ((by rw [hg]; exact (below_size (by repeat (first | (with_reducible first | exact HB.out | apply below_alloc | apply pw_below_drewN | apply below_drew1 | refine below_set ?_ GE101.out) | exact HB.out))) : w.heap.size ≤ gb105)); have n5_ := Aside0.mk ((by rw [hg]; exact Nat.ne_of_lt (blk_lt (g := gb101) (o := .cells #[.int .i64 a0_0, .int .i64 a0_1, .string a0_2] 26 (0, 0)) (by (with_reducible repeat (first | refine blk_drewN ?_ _ | refine blk_drew ?_ | refine blk_alloc ?_ _)); exact BK101.out)) : gb101 ≠ gb105)); have n6_ := Aside0.mk ((by rw [hg]; exact Nat.ne_of_gt (blk_lt (g := gb101) (o := .cells #[.int .i64 a0_0, .int .i64 a0_1, .string a0_2] 26 (0, 0)) (by (with_reducible repeat (first | refine blk_drewN ?_ _ | refine blk_drew ?_ | refine blk_alloc ?_ _)); exact BK101.out)) : gb105 ≠ gb101)); clear BK101; clear HB; have BK101 := n0_; have HB := n1_; have BK105 := n2_; have GW105 := n3_; have GE105 := n4_; have NB101_105 := n5_; have NB105_101 := n6_; clear n0_ n1_ n2_ n3_ n4_ n5_ n6_; clear hb hbox hg; have hnb8 := NB105_101.out; have hnc8 := NB101_105.out; have hcz9_0 : w7.cell? ⟨gb105, 0, none⟩ = some (.bool false) := (blk_cell BK105.out 0).trans rfl; have hcz9_1 : w7.cell? ⟨gb105, 1, none⟩ = some (.bool false) := (blk_cell BK105.out 1).trans rfl; have hfz9_0 := blk_frozen BK105.out 0; have hfz9_1 := blk_frozen BK105.out 1; have hcz10_0 : w7.cell? ⟨gb101, 0, none⟩ = some (.int .i64 a0_0) := (blk_cell BK101.out 0).trans rfl; have hcz10_1 : w7.cell? ⟨gb101, 1, none⟩ = some (.int .i64 a0_1) := (blk_cell BK101.out 1).trans rfl; have hcz10_2 : w7.cell? ⟨gb101, 2, none⟩ = some (.string a0_2) := (blk_cell BK101.out 2).trans rfl; have hfz10_0 := blk_frozen BK101.out 0; have hfz10_1 := blk_frozen BK101.out 1; have hfz10_2 := blk_frozen BK101.out 2))
    go_ret
    exact ⟨by first | rfl | (simp [errW_none, errW_some] <;> rfl) | (simp [*, errW_none, errW_some] <;> rfl), by repeat (first | (with_reducible first | exact HB.out | apply below_alloc | apply pw_below_drewN | apply below_drew1 | refine below_set ?_ GE101.out | refine below_set ?_ GE105.out) | exact HB.out)⟩
  · replace c3 := Bool.eq_false_iff.mpr c3
    subst c3
    have H1 : (some 0) = some r := by rw [if_neg (show ¬ (false = true) by decide)] at H; exact H
    clear H
    have H := H1
    clear H1
    obtain rfl := Option.some.inj H
    go_enter Tryd.func80, Tryd.ntmps80
    go_wp2_with (first | ((with_reducible refine gate_dst (N := 1) rfl ?_); refine box_event ?hg (N := 1) ?hd (cs := #[.int .i64 a0_0, .int .i64 a0_1, .string a0_2]) (t := 26) ?hr ?_; (case hd => rfl); (case hg => rfl); (case hr => first | (go_simp; done) | (go_simp; rfl)); intro gb101 hg w11 hbox hb; have n0_ := Aside0.mk (below_step (by repeat (first | (with_reducible first | exact HB.out | apply below_alloc | apply pw_below_drewN | apply below_drew1) | exact HB.out)) hb); have n1_ := Aside0.mk (hbox); have n2_ := Aside0.mk ((by rw [hg]; exact (below_size (by repeat (first | (with_reducible first | exact HB.out | apply below_alloc | apply pw_below_drewN | apply below_drew1) | exact HB.out))) : w.heap.size ≤ gb101)); have n3_ := Aside0.mk ((by rw [hg]; exact (below_size (by repeat (first | (with_reducible first | exact HB.out | apply below_alloc | apply pw_below_drewN | apply below_drew1) | exact HB.out))) : w.heap.size ≤ gb101)); clear HB; have HB := n0_; have BK101 := n1_; have GW101 := n2_; have GE101 := n3_; clear n0_ n1_ n2_ n3_; clear hb hbox hg; have hcz12_0 : w11.cell? ⟨gb101, 0, none⟩ = some (.int .i64 a0_0) := (blk_cell BK101.out 0).trans rfl; have hcz12_1 : w11.cell? ⟨gb101, 1, none⟩ = some (.int .i64 a0_1) := (blk_cell BK101.out 1).trans rfl; have hcz12_2 : w11.cell? ⟨gb101, 2, none⟩ = some (.string a0_2) := (blk_cell BK101.out 2).trans rfl; have hfz12_0 := blk_frozen BK101.out 0; have hfz12_1 := blk_frozen BK101.out 1; have hfz12_2 := blk_frozen BK101.out 2) | ((with_reducible refine gate_callee (f := 83) rfl ?_); refine goesL_ (some 7) rfl rfl Tryd.func83 (by kernel_rfl) rfl #[.agg #[.int .i64 a0_0, .int .i64 a0_1, .string a0_2]] rfl (by (try simp only [List.map_toArray, List.map_cons, List.map_nil]); first | done | rfl | (simp only [List.length_drop, List.length_take]; rfl)) ?_; (with_reducible refine (span_of.calls a0_0 a0_1 a0_2 false t103 t104 _ ?side1 A2.out).mono ?_); (case side1 => first | (with_reducible exact HG.out) | exact Glob.below HG.out (by repeat (first | (with_reducible first | exact HB.out | apply below_alloc | apply pw_below_drewN | apply below_drew1 | refine below_set ?_ GE101.out) | exact HB.out)) | exact Glob.drawn HG.out (by repeat (first | exact Drawn0.refl _ | apply Drawn0.step))); rintro e w13 ⟨rfl, hb⟩; refine ⟨_, rfl, ?_⟩; have n0_ := Aside0.mk (blk_below (g := gb101) (o := .cells #[.int .i64 a0_0, .int .i64 a0_1, .string a0_2] 26 (0, 0)) (by (with_reducible repeat (first | refine blk_drewN ?_ _ | refine blk_drew ?_ | refine blk_alloc ?_ _)); exact BK101.out) hb); have n1_ := Aside0.mk (below_step (by repeat (first | (with_reducible first | exact HB.out | apply below_alloc | apply pw_below_drewN | apply below_drew1 | refine below_set ?_ GE101.out) | exact HB.out)) hb); clear BK101; clear HB; have BK101 := n0_; have HB := n1_; clear n0_ n1_; (try clear hb); (try clear hb2); (try clear hk); (try clear hi)) | ((with_reducible refine gate_dst (N := 3) rfl ?_); refine box_event ?hg (N := 3) ?hd (cs := #[.bool false, .bool false]) (t := 102) ?hr ?_; (case hd => rfl); (case hg => rfl); (case hr => first | (go_simp; done) | (go_simp; rfl)); intro gb105 hg w14 hbox hb; have n0_ := Aside0.mk (blk_below (g := gb101) (o := .cells #[.int .i64 a0_0, .int .i64 a0_1, .string a0_2] 26 (0, 0)) (by (with_reducible repeat (first | refine blk_drewN ?_ _ | refine blk_drew ?_ | refine blk_alloc ?_ _)); exact BK101.out) hb); have n1_ := Aside0.mk (below_step (by repeat (first | (with_reducible first | exact HB.out | apply below_alloc | apply pw_below_drewN | apply below_drew1 | refine below_set ?_ GE101.out) | exact HB.out)) hb); have n2_ := Aside0.mk (hbox); have n3_ := Aside0.mk ((by rw [hg]; exact (below_size (by repeat (first | (with_reducible first | exact HB.out | apply below_alloc | apply pw_below_drewN | apply below_drew1 | refine below_set ?_ GE101.out) | exact HB.out))) : w.heap.size ≤ gb105)); have n4_ := Aside0.mk ((by rw [hg]; exact (below_size (by repeat (first | (with_reducible first | exact HB.out | apply below_alloc | apply pw_below_drewN | apply below_drew1 | refine below_set ?_ GE101.out) | exact HB.out))) : w.heap.size ≤ gb105)); have n5_ := Aside0.mk ((by rw [hg]; exact Nat.ne_of_lt (blk_lt (g := gb101) (o := .cells #[.int .i64 a0_0, .int .i64 a0_1, .string a0_2] 26 (0, 0)) (by (with_reducible repeat (first | refine blk_drewN ?_ _ | refine blk_drew ?_ | refine blk_alloc ?_ _)); exact BK101.out)) : gb101 ≠ gb105)); have n6_ := Aside0.mk ((by rw [hg]; exact Nat.ne_of_gt (blk_lt (g := gb101) (o := .cells #[.int .i64 a0_0, .int .i64 a0_1, .string a0_2] 26 (0, 0)) (by (with_reducible repeat (first | refine blk_drewN ?_ _ | refine blk_drew ?_ | refine blk_alloc ?_ _)); exact BK101.out)) : gb105 ≠ gb101)); clear BK101; clear HB; have BK101 := n0_; have HB := n1_; have BK105 := n2_; have GW105 := n3_; have GE105 := n4_; have NB101_105 := n5_; have NB105_101 := n6_; clear n0_ n1_ n2_ n3_ n4_ n5_ n6_; clear hb hbox hg; have hnb15 := NB105_101.out; have hnc15 := NB101_105.out; have hcz16_0 : w14.cell? ⟨gb105, 0, none⟩ = some (.bool false) := (blk_cell BK105.out 0).trans rfl; have hcz16_1 : w14.cell? ⟨gb105, 1, none⟩ = some (.bool false) := (blk_cell BK105.out 1).trans rfl; have hfz16_0 := blk_frozen BK105.out 0; have hfz16_1 := blk_frozen BK105.out 1))
    go_ret
    exact ⟨by first | rfl | (simp [errW_none, errW_some] <;> rfl) | (simp [*, errW_none, errW_some] <;> rfl), by repeat (first | (with_reducible first | exact HB.out | apply below_alloc | apply pw_below_drewN | apply below_drew1 | refine below_set ?_ GE101.out | refine below_set ?_ GE105.out) | exact HB.out)⟩
end Go.Proofs.YtkefbljogjcodaaDoor.F
end
section
namespace Go.Proofs.YtkefbljogjcodaaDoor.F
open Go.RowKit Go.Proofs.YtkefbljogjcodaaDoorW.PrintWords Go.Proofs.YtkefbljogjcodaaDoorW.PrintLast Go.Proofs.YtkefbljogjcodaaDoorW.PrintMore
set_option linter.unusedVariables false
set_option linter.unusedSimpArgs false
section
variable {P : Program}
variable {ops : Array Oper} {rest : List Oper} {o : Oper} {a : Act} {Q : Exit → Act → World → Prop} {α : Type}
end
section
variable {P : Program} {ops : Array Oper} {rest : List Oper} {o : Oper} {a : Act} {Q : Exit → Act → World → Prop} {W : World}
theorem gate_value {x : Operand} {ags : Array Operand} {ts : Array TypeId} (_ho : o.op = .call { callee := .value x, args := ags, argTypes := ts }) (h : wpList P ops Q (o :: rest) a W) : wpList P ops Q (o :: rest) a W := h
theorem goesV_ {oi : Oper} {w : World} (N : Option Tmp) (hd : oi.dst = N) (hg : oi.guard = none) {f : FuncId} {fn : Func} {x : Operand} {ags : Array Operand} {ts : Array TypeId} (hf : P.funcs[f]? = some fn) (hname : (fn.name == "runtime.NumGoroutine") = false) (hb : fn.body.isSome = true) (args : Array Value)
    (hop : oi.op = .call { callee := .value x, args := ags, argTypes := ts }) (hx : a.eval x = .func (.func f) #[] #[]) (hargs : ags.map a.eval = args)
    (h : Calls P f args w fun e w' => ∃ v, e = .returned v ∧ wpList P ops Q rest (a.put N v) w') : wpList P ops Q (oi :: rest) a w := by
  have he := enters_ hf hname hb args w
  have hrun : (execOp a.eval oi).run P w = .ok (.enter f args) w := by
    unfold execOp
    simp [hop, resolve, Deferred.ofValue, invoke, hx, hargs, he]
  refine wpList_plain hg fun K hK => ?_
  unfold Oper.wp
  rw [hrun, Oper.upon_enter]
  refine h.mono fun e w'' hh => ?_
  obtain ⟨v, rfl, hk⟩ := hh
  subst hd
  exact hK _ _ hk
end
def fit_rune.f (a b c d e f g h i : Int) : Option Int := ([a, b, c, d, e, f, g, h] : List Int)[i.toNat]?
theorem fit_cell {w : World} {gb t : Nat} {a b c d e f g h i r : Int} (hb : w.heap[gb]? = some (.cells #[.int .i32 a, .int .i32 b, .int .i32 c, .int .i32 d, .int .i32 e, .int .i32 f, .int .i32 g, .int .i32 h] t (0, 0)))
    (hr : fit_rune.f a b c d e f g h i = some r) : w.cell? ⟨gb, i.toNat, none⟩ = some (.int .i32 r) := by
  rw [blk_cell hb]
  unfold fit_rune.f at hr
  have : (#[.int .i32 a, .int .i32 b, .int .i32 c, .int .i32 d, .int .i32 e, .int .i32 f, .int .i32 g, .int .i32 h] : Array Value) = (([a, b, c, d, e, f, g, h] : List Int).map (Value.int .i32)).toArray := rfl
  rw [this, List.getElem?_toArray, List.getElem?_map, hr]
  rfl
theorem rem8 (x : Int) (h : 0 ≤ x) : 0 ≤ Int.tmod x 8 ∧ Int.tmod x 8 < 8 := ⟨Int.tmod_nonneg _ h, Int.tmod_lt_of_pos _ (by decide)⟩
theorem bt_nonneg (s : ByteArray) (i : Int) : 0 ≤ bt s i := (bt_range s i).1
end Go.Proofs.YtkefbljogjcodaaDoor.F
end
section
namespace Go.Proofs.YtkefbljogjcodaaDoor.F
open Go.RowKit Go.Proofs.YtkefbljogjcodaaDoorW.PrintWords Go.Proofs.YtkefbljogjcodaaDoorW.PrintLast Go.Proofs.YtkefbljogjcodaaDoorW.PrintMore
attribute [local go_sem] max2_int min2_int max_two min_two max_three min_three max_four min_four cell_setCell_isSome
set_option linter.unusedVariables false
set_option linter.unusedSimpArgs false
def op_row_sum.l0 : Nat → Int → List (S26) → Int → Int → Option (Int)
  | 0, _, _, _, _ => none
  | k + 1, x5, x8, x9, x10 => if x10 < x9 then (if 0 ≤ x10 then (if x10 < (x8.length : Int) then ((span_In.f ((rd_T26 x8 x10).f0) ((rd_T26 x8 x10).f1) ((rd_T26 x8 x10).f2)).bind fun t103 => (op_row_sum.l0 k (wrap64 (x5 + t103)) x8 x9 (wrap64 (x10 + 1)))) else (none)) else (none)) else (some x5)
def op_row_sum.f (k : Nat) (l0 : List (S26)) : Option (Int) := op_row_sum.l0 k 0 l0 (l0.length : Int) 0
set_option maxHeartbeats 8000000 in
set_option maxRecDepth 100000 in
theorem op_row_sum.calls (k : Nat) (A0 : Option Addr) (c0 : Nat) (l0 : List (S26)) (r : Int) (w : World) (hG : Glob w) (hr0 : Kd.C k26 w A0 l0.length l0) (hc0 : l0.length ≤ c0) (h : op_row_sum.f k l0 = some r) :
    Calls Tryd.prog 66 #[.slice A0 l0.length c0, .func (.func 80) #[] #[]] w fun e w' => e = .returned (.int .i64 r) ∧ Below w.heap.size w w' := by
  have hu26 := Tryd.underlying26
  have HG := Aside0.mk hG
  clear hG
  have HR0 := Aside0.mk hr0
  have HC0 := Aside0.mk hc0
  clear hr0 hc0
  have HB := Aside0.mk (Below.refl w.heap.size w)
  have H : (op_row_sum.l0 k 0 l0 (l0.length : Int) 0) = some r := h
  clear h
  have H' := Aside0.mk H
  clear H
  go_enter Tryd.func66, Tryd.ntmps66
  go_wp2
  go_loopg [5, 10] k (fun kq v5 v10 w' => ∃ (x5_1 : Int) (x10_1 : Int), v5 = .int .i64 x5_1 ∧ v10 = .int .i64 x10_1 ∧ Aside0 (op_row_sum.l0 kq x5_1 l0 (l0.length : Int) x10_1 = some r) ∧ Aside0 (kq ≤ k) ∧ Aside0 (Below w.heap.size w w'))
  case atStart => exact ⟨(0), (0), (by first | rfl | (simp; done) | (simp [*]; done)), (by first | rfl | (simp; done) | (simp [*]; done)), H', ⟨Nat.le_refl _⟩, ⟨by repeat (first | (with_reducible first | exact HB.out | apply below_alloc | apply pw_below_drewN | apply below_drew1) | exact HB.out)⟩⟩
  case round =>
    clear H'
    obtain ⟨x5_1, x10_1, rfl, rfl, HA, HK1, HB⟩ := hrel
    cases gk with
    | zero => exact absurd HA.out (by simp [op_row_sum.l0])
    | succ k1 =>
      have H := HA.out
      clear HA
      simp only [op_row_sum.l0] at H
      by_cases c2 : x10_1 < (l0.length : Int)
      · rw [if_pos c2] at H
        have c2b0 : decide (x10_1 < (l0.length : Int)) = true := decide_eq_true c2
        clear c2
        by_cases c3 : 0 ≤ x10_1
        · rw [if_pos c3] at H
          have c3b0 : decide (0 ≤ x10_1) = true := decide_eq_true c3
          clear c3
          by_cases c4 : x10_1 < (l0.length : Int)
          · rw [if_pos c4] at H
            have c4b0 : decide (x10_1 < (l0.length : Int)) = true := decide_eq_true c4
            clear c4
            replace H := Option.bind_eq_some_iff.mp H
            obtain ⟨t103, A50, H⟩ := H
            replace H : (op_row_sum.l0 k1 (wrap64 (x5_1 + t103)) l0 (l0.length : Int) (wrap64 (x10_1 + 1))) = some r := H
            have A5 := Aside0.mk A50
            clear A50
            have H' := Aside0.mk H
            clear H
            have p101 : 0 ≤ (x10_1 : Int) := of_decide_eq_true (by first | (with_reducible assumption) | assumption)
            have q101 : x10_1 < (l0.length : Int) := of_decide_eq_true (by first | (with_reducible assumption) | assumption)
            obtain ⟨ad101, e101, hx101_0, hx101_1, hx101_2⟩ := at_T26 HR0.out x10_1 p101 q101
            cases e101
            replace hx101_0 := (HB.out.cell (World.block_lt_of_cell? w _ hx101_0)).trans hx101_0
            replace hx101_1 := (HB.out.cell (World.block_lt_of_cell? w _ hx101_1)).trans hx101_1
            replace hx101_2 := (HB.out.cell (World.block_lt_of_cell? w _ hx101_2)).trans hx101_2
            replace p101 := eq_true p101
            replace q101 := eq_true q101
            go_wp2_with (first | ((with_reducible refine gate_dst (N := 7) rfl ?_); refine box_event ?hg (N := 7) ?hd (cs := #[.int .i64 0, .int .i64 0, .string (⟨#[]⟩ : ByteArray)]) (t := 26) ?hr ?_; (case hd => rfl); (case hg => rfl); (case hr => first | (go_simp; done) | (go_simp; rfl)); intro gb102 hg w6 hbox hb; have n0_ := Aside0.mk (below_step (by repeat (first | (with_reducible first | exact HB.out | apply below_alloc | apply pw_below_drewN | apply below_drew1) | exact HB.out)) hb); have n1_ := Aside0.mk (hbox); have n2_ := Aside0.mk ((by rw [hg]; exact (below_size (by repeat (first | (with_reducible first | exact HB.out | apply below_alloc | apply pw_below_drewN | apply below_drew1) | exact HB.out))) : w.heap.size ≤ gb102)); have n3_ := Aside0.mk ((by rw [hg]; exact (below_size (by repeat (first | (with_reducible first | exact HB.out | apply below_alloc | apply pw_below_drewN | apply below_drew1) | exact HB.out))) : w.heap.size ≤ gb102)); clear HB; have HB := n0_; have BK102 := n1_; have GW102 := n2_; have GE102 := n3_; clear n0_ n1_ n2_ n3_; clear hb hbox hg; have hcz7_0 : w6.cell? ⟨gb102, 0, none⟩ = some (.int .i64 0) := (blk_cell BK102.out 0).trans rfl; have hcz7_1 : w6.cell? ⟨gb102, 1, none⟩ = some (.int .i64 0) := (blk_cell BK102.out 1).trans rfl; have hcz7_2 : w6.cell? ⟨gb102, 2, none⟩ = some (.string (⟨#[]⟩ : ByteArray)) := (blk_cell BK102.out 2).trans rfl; have hfz7_0 := blk_frozen BK102.out 0; have hfz7_1 := blk_frozen BK102.out 1; have hfz7_2 := blk_frozen BK102.out 2) | ((with_reducible refine gate_value (x := .tmp 15) rfl ?_); refine goesV_ (some 17) rfl rfl Tryd.func80 (by kernel_rfl) rfl #[.agg #[.int .i64 ((rd_T26 l0 x10_1).f0), .int .i64 ((rd_T26 l0 x10_1).f1), .string ((rd_T26 l0 x10_1).f2)]] rfl rfl (by (try simp only [List.map_toArray, List.map_cons, List.map_nil]); first | done | rfl | (simp only [List.length_drop, List.length_take]; rfl)) ?_; (with_reducible refine (span_In.calls ((rd_T26 l0 x10_1).f0) ((rd_T26 l0 x10_1).f1) ((rd_T26 l0 x10_1).f2) t103 _ ?side1 A5.out).mono ?_); (case side1 => first | (with_reducible exact HG.out) | exact Glob.below HG.out (by repeat (first | (with_reducible first | exact HB.out | apply below_alloc | apply pw_below_drewN | apply below_drew1 | refine below_set ?_ GE102.out) | exact HB.out)) | exact Glob.drawn HG.out (by repeat (first | exact Drawn0.refl _ | apply Drawn0.step))); rintro e w8 ⟨rfl, hb⟩; refine ⟨_, rfl, ?_⟩; have n0_ := Aside0.mk (blk_below (g := gb102) (o := .cells #[.int .i64 ((rd_T26 l0 x10_1).f0), .int .i64 ((rd_T26 l0 x10_1).f1), .string ((rd_T26 l0 x10_1).f2)] 26 (0, 0)) (by (with_reducible repeat (first | refine blk_drewN ?_ _ | refine blk_drew ?_ | refine blk_alloc ?_ _)); refine blk_put (cs := #[.int .i64 ((rd_T26 l0 x10_1).f0), .int .i64 ((rd_T26 l0 x10_1).f1), .string (⟨#[]⟩ : ByteArray)]) ?_ 2 _ rfl; (with_reducible repeat (first | refine blk_drewN ?_ _ | refine blk_drew ?_ | refine blk_alloc ?_ _)); refine blk_put (cs := #[.int .i64 ((rd_T26 l0 x10_1).f0), .int .i64 0, .string (⟨#[]⟩ : ByteArray)]) ?_ 1 _ rfl; (with_reducible repeat (first | refine blk_drewN ?_ _ | refine blk_drew ?_ | refine blk_alloc ?_ _)); refine blk_put (cs := #[.int .i64 0, .int .i64 0, .string (⟨#[]⟩ : ByteArray)]) ?_ 0 _ rfl; (with_reducible repeat (first | refine blk_drewN ?_ _ | refine blk_drew ?_ | refine blk_alloc ?_ _)); exact BK102.out) hb); have n1_ := Aside0.mk (below_step (by repeat (first | (with_reducible first | exact HB.out | apply below_alloc | apply pw_below_drewN | apply below_drew1 | refine below_set ?_ GE102.out) | exact HB.out)) hb); clear BK102; clear HB; have BK102 := n0_; have HB := n1_; clear n0_ n1_; (try clear hb); (try clear hb2); (try clear hk); (try clear hi)))
            go_roundg k1
            case measure => have := HK1.out; omega
            case rel => exact ⟨(wrap64 (x5_1 + t103)), (wrap64 (x10_1 + 1)), (by first | rfl | (simp; done) | (simp [*]; done)), (by first | rfl | (simp; done) | (simp [*]; done)), H', ⟨by have := HK1.out; omega⟩, ⟨by repeat (first | (with_reducible first | exact HB.out | apply below_alloc | apply pw_below_drewN | apply below_drew1 | refine below_set ?_ GE102.out) | exact HB.out)⟩⟩
          · rw [if_neg c4] at H
            exact absurd H (by simp)
        · rw [if_neg c3] at H
          exact absurd H (by simp)
      · rw [if_neg c2] at H
        have c2b0 : decide (x10_1 < (l0.length : Int)) = false := decide_eq_false c2
        clear c2
        obtain rfl := Option.some.inj H
        go_wp2
        go_ret
        exact ⟨by first | rfl | (simp [errW_none, errW_some] <;> rfl) | (simp [*, errW_none, errW_some] <;> rfl), by repeat (first | (with_reducible first | exact HB.out | apply below_alloc | apply pw_below_drewN | apply below_drew1) | exact HB.out)⟩
end Go.Proofs.YtkefbljogjcodaaDoor.F
end
section
namespace Go.Proofs.YtkefbljogjcodaaDoor.F
open Go.RowKit Go.Proofs.YtkefbljogjcodaaDoorW.PrintWords Go.Proofs.YtkefbljogjcodaaDoorW.PrintLast Go.Proofs.YtkefbljogjcodaaDoorW.PrintMore
attribute [local go_sem] max2_int min2_int max_two min_two max_three min_three max_four min_four cell_setCell_isSome
set_option linter.unusedVariables false
set_option linter.unusedSimpArgs false
def op_In.f (k : Nat) (l0 : List (S26)) : Option (Int) := (op_row_sum.f k l0).bind fun t101 => (some t101)
set_option maxHeartbeats 8000000 in
set_option maxRecDepth 100000 in
theorem op_In.calls (k : Nat) (A0 : Option Addr) (c0 : Nat) (l0 : List (S26)) (r : Int) (w : World) (hG : Glob w) (hr0 : Kd.C k26 w A0 l0.length l0) (hc0 : l0.length ≤ c0) (h : op_In.f k l0 = some r) :
    Calls Tryd.prog 45 #[.slice A0 l0.length c0] w fun e w' => e = .returned (.int .i64 r) ∧ Below w.heap.size w w' := by
  have HG := Aside0.mk hG
  clear hG
  have HR0 := Aside0.mk hr0
  have HC0 := Aside0.mk hc0
  clear hr0 hc0
  have HB := Aside0.mk (Below.refl w.heap.size w)
  have H : ((op_row_sum.f k l0).bind fun t101 => (some t101)) = some r := h
  clear h
  replace H := Option.bind_eq_some_iff.mp H
  obtain ⟨t101, A20, H⟩ := H
  replace H : (some t101) = some r := H
  have A2 := Aside0.mk A20
  clear A20
  obtain rfl := Option.some.inj H
  go_enter Tryd.func45, Tryd.ntmps45
  go_wp2_with (first | ((with_reducible refine gate_value (x := .tmp 4) rfl ?_); refine goesV_ (some 6) rfl rfl Tryd.func66 (by kernel_rfl) rfl #[.slice A0 l0.length c0, .func (.func 80) #[] #[]] rfl rfl (by (try simp only [List.map_toArray, List.map_cons, List.map_nil]); first | done | rfl | (simp only [List.length_drop, List.length_take]; rfl)) ?_; (with_reducible refine (op_row_sum.calls k _ _ l0 t101 _ ?side1 ?side2 ?side3 A2.out).mono ?_); (case side1 => first | (with_reducible exact HG.out) | exact Glob.below HG.out (by repeat (first | (with_reducible first | exact HB.out | apply below_alloc | apply pw_below_drewN | apply below_drew1) | exact HB.out)) | exact Glob.drawn HG.out (by repeat (first | exact Drawn0.refl _ | apply Drawn0.step))); (case side2 => repeat (first | exact HR0.out | (with_reducible refine Kd.C_alloc ?_ _) | (with_reducible refine Kd.C_drewN ?_ _) | (with_reducible refine Kd.C_drew ?_))); (case side3 => exact HC0.out); rintro e w3 ⟨rfl, hb⟩; refine ⟨_, rfl, ?_⟩; have n0_ := Aside0.mk (below_step (by repeat (first | (with_reducible first | exact HB.out | apply below_alloc | apply pw_below_drewN | apply below_drew1) | exact HB.out)) hb); clear HB; have HB := n0_; clear n0_; (try clear hb); (try clear hb2); (try clear hk); (try clear hi)))
  go_ret
  exact ⟨by first | rfl | (simp [errW_none, errW_some] <;> rfl) | (simp [*, errW_none, errW_some] <;> rfl), by repeat (first | (with_reducible first | exact HB.out | apply below_alloc | apply pw_below_drewN | apply below_drew1) | exact HB.out)⟩
end Go.Proofs.YtkefbljogjcodaaDoor.F
end
section
namespace Go.Proofs
open Go.Shelf
def Tryd.laysValid_ren : Go.Shelf.Ren := ⟨fun | 196 => 84 | 259 => 92 | n => n, fun | 9 => 9 | 4 => 4 | 3 => 3 | 5 => 5 | 12 => 12 | 119 => 114 | 0 => 0 | 46 => 118 | 139 => 117 | 138 => 116 | 53 => 119 | n => n, fun | 3 => 1 | 4 => 2 | n => n⟩
theorem Tryd.laysValid : Go.Proofs.Lays.n196 Tryd.prog Tryd.laysValid_ren := {
  mixed := by kernel_rfl
  f196 := Tryd.func84.trans (congrArg some (by kernel_rfl))
  f259 := Tryd.func92.trans (congrArg some (by kernel_rfl))
  t0 := Tryd.underlying0
  a0 := Tryd.isAgg0
  z0 := Tryd.sizeOf0
  v0 := Tryd.zeroValue0
  t3 := Tryd.underlying3
  a3 := Tryd.isAgg3
  z3 := Tryd.sizeOf3
  v3 := Tryd.zeroValue3
  t4 := Tryd.underlying4
  a4 := Tryd.isAgg4
  z4 := Tryd.sizeOf4
  v4 := Tryd.zeroValue4
  t5 := Tryd.underlying5
  a5 := Tryd.isAgg5
  z5 := Tryd.sizeOf5
  v5 := Tryd.zeroValue5
  t9 := Tryd.underlying9
  a9 := Tryd.isAgg9
  z9 := Tryd.sizeOf9
  v9 := Tryd.zeroValue9
  t12 := Tryd.underlying12
  a12 := Tryd.isAgg12
  z12 := Tryd.sizeOf12
  v12 := Tryd.zeroValue12
  t46 := Tryd.underlying118
  a46 := Tryd.isAgg118
  z46 := Tryd.sizeOf118
  v46 := Tryd.zeroValue118
  t53 := Tryd.underlying119
  a53 := Tryd.isAgg119
  z53 := Tryd.sizeOf119
  v53 := Tryd.zeroValue119
  t119 := Tryd.underlying114
  a119 := Tryd.isAgg114
  z119 := Tryd.sizeOf114
  t138 := Tryd.underlying116
  a138 := Tryd.isAgg116
  z138 := Tryd.sizeOf116
  v138 := Tryd.zeroValue116
  t139 := Tryd.underlying117
  a139 := Tryd.isAgg117
  z139 := Tryd.sizeOf117
  v139 := Tryd.zeroValue117
  g3 := by kernel_rfl
  g4 := by kernel_rfl }
end Go.Proofs
end
section
namespace Go.Proofs.YtkefbljogjcodaaDoor.F
open Go.RowKit Go.Proofs.YtkefbljogjcodaaDoorW.PrintWords Go.Proofs.YtkefbljogjcodaaDoorW.PrintLast Go.Proofs.YtkefbljogjcodaaDoorW.PrintMore
set_option linter.unusedVariables false
set_option linter.unusedSimpArgs false
def utf8_ValidString.f (a0 : ByteArray) : Option Bool := if a0.size ≤ 9223372036854775807 then some (Lib.validD a0.data.toList) else none
theorem utf8_ValidString.calls (a0 : ByteArray) (r : Bool) (w : World) (hG : Glob w) (h : utf8_ValidString.f a0 = some r) :
    Calls Tryd.prog 84 #[.string a0] w fun e w' => e = .returned (.bool r) ∧ Below w.heap.size w w' := by
  unfold utf8_ValidString.f at h
  split at h
  · next hs =>
    obtain rfl := Option.some.inj h
    exact Any.utf8_ValidString Tryd.laysValid a0 w hs hG.tabs
  · cases h
end Go.Proofs.YtkefbljogjcodaaDoor.F
end
section
namespace Go.Proofs.YtkefbljogjcodaaDoor.F
open Go.RowKit Go.Proofs.YtkefbljogjcodaaDoorW.PrintWords Go.Proofs.YtkefbljogjcodaaDoorW.PrintLast Go.Proofs.YtkefbljogjcodaaDoorW.PrintMore
attribute [local go_sem] max2_int min2_int max_two min_two max_three min_three max_four min_four cell_setCell_isSome
set_option linter.unusedVariables false
set_option linter.unusedSimpArgs false
def points_Valid.f (a0 : ByteArray) : Option (Bool) := (utf8_ValidString.f a0).bind fun t101 => (some t101)
set_option maxHeartbeats 8000000 in
set_option maxRecDepth 100000 in
theorem points_Valid.calls (a0 : ByteArray) (r : Bool) (w : World) (hG : Glob w) (h : points_Valid.f a0 = some r) :
    Calls Tryd.prog 55 #[.string a0] w fun e w' => e = .returned (.bool r) ∧ Below w.heap.size w w' := by
  have HG := Aside0.mk hG
  clear hG
  have HB := Aside0.mk (Below.refl w.heap.size w)
  have H : ((utf8_ValidString.f a0).bind fun t101 => (some t101)) = some r := h
  clear h
  replace H := Option.bind_eq_some_iff.mp H
  obtain ⟨t101, A20, H⟩ := H
  replace H : (some t101) = some r := H
  have A2 := Aside0.mk A20
  clear A20
  obtain rfl := Option.some.inj H
  go_enter Tryd.func55, Tryd.ntmps55
  go_wp2_with (first | ((with_reducible refine gate_callee (f := 84) rfl ?_); refine goesL_ (some 4) rfl rfl Tryd.func84 (by kernel_rfl) rfl #[.string a0] rfl (by (try simp only [List.map_toArray, List.map_cons, List.map_nil]); first | done | rfl | (simp only [List.length_drop, List.length_take]; rfl)) ?_; (with_reducible refine (utf8_ValidString.calls a0 t101 _ ?side1 A2.out).mono ?_); (case side1 => first | (with_reducible exact HG.out) | exact Glob.below HG.out (by repeat (first | (with_reducible first | exact HB.out | apply below_alloc | apply pw_below_drewN | apply below_drew1) | exact HB.out)) | exact Glob.drawn HG.out (by repeat (first | exact Drawn0.refl _ | apply Drawn0.step))); rintro e w3 ⟨rfl, hb⟩; refine ⟨_, rfl, ?_⟩; have n0_ := Aside0.mk (below_step (by repeat (first | (with_reducible first | exact HB.out | apply below_alloc | apply pw_below_drewN | apply below_drew1) | exact HB.out)) hb); clear HB; have HB := n0_; clear n0_; (try clear hb); (try clear hb2); (try clear hk); (try clear hi)))
  go_ret
  exact ⟨by first | rfl | (simp [errW_none, errW_some] <;> rfl) | (simp [*, errW_none, errW_some] <;> rfl), by repeat (first | (with_reducible first | exact HB.out | apply below_alloc | apply pw_below_drewN | apply below_drew1) | exact HB.out)⟩
end Go.Proofs.YtkefbljogjcodaaDoor.F
end
section
namespace Go.Proofs.YtkefbljogjcodaaDoor.F
open Go.RowKit Go.Proofs.YtkefbljogjcodaaDoorW.PrintWords Go.Proofs.YtkefbljogjcodaaDoorW.PrintLast Go.Proofs.YtkefbljogjcodaaDoorW.PrintMore
attribute [local go_sem] max2_int min2_int max_two min_two max_three min_three max_four min_four cell_setCell_isSome
set_option linter.unusedVariables false
set_option linter.unusedSimpArgs false
mutual
def span_May.j0 : Nat → Bool → Int → Int → ByteArray → Bool → Bool → Option (Int)
  | 0, _, _, _, _, _, _ => none
  | k + 1, x13, x102000, x102001, x102002, x106000, x106001 => if x13 = true then (span_May.j1 k x13 x102000 x102001 x102002 x106000 x106001) else (if x106000 = true then (span_May.j1 k false x102000 x102001 x102002 x106000 x106001) else (span_May.j1 k (x102001 != 0) x102000 x102001 x102002 x106000 x106001))
def span_May.j1 : Nat → Bool → Int → Int → ByteArray → Bool → Bool → Option (Int)
  | 0, _, _, _, _, _, _ => none
  | k + 1, x13, x102000, x102001, x102002, x106000, x106001 => if x13 = true then (some 2) else (if x106000 = true then (span_May.j2 k (x102002.toList != ([] : List UInt8)) x102000 x102001 x102002) else (span_May.j2 k false x102000 x102001 x102002))
def span_May.j2 : Nat → Bool → Int → Int → ByteArray → Option (Int)
  | 0, _, _, _, _ => none
  | k + 1, x34, x102000, x102001, x102002 => if x34 = true then (some 3) else ((points_Valid.f x102002).bind fun t106 => (if t106 = true then (some 0) else (some 3)))
end
def span_May.f (k : Nat) (a0_0 : Int) (a0_1 : Int) (a0_2 : ByteArray) : Option (Int) := (span_of.f a0_0 a0_1 a0_2).bind fun bt102 => (if bt102.2.2 = true then (if bt102.1 = true then (if a0_1 < 0 then (span_May.j0 k true a0_0 a0_1 a0_2 bt102.1 bt102.2.1) else (span_May.j0 k (decide (a0_1 > 1048576)) a0_0 a0_1 a0_2 bt102.1 bt102.2.1)) else (span_May.j0 k false a0_0 a0_1 a0_2 bt102.1 bt102.2.1)) else (some 1))
set_option maxHeartbeats 8000000 in
set_option maxRecDepth 100000 in
theorem span_May.calls (k : Nat) (a0_0 : Int) (a0_1 : Int) (a0_2 : ByteArray) (r : Int) (w : World) (hG : Glob w) (h : span_May.f k a0_0 a0_1 a0_2 = some r) :
    Calls Tryd.prog 82 #[.agg #[.int .i64 a0_0, .int .i64 a0_1, .string a0_2]] w fun e w' => e = .returned (.int .i64 r) ∧ Below w.heap.size w w' := by
  have hu26 := Tryd.underlying26
  have hu102 := Tryd.underlying102
  have HG := Aside0.mk hG
  clear hG
  have HB := Aside0.mk (Below.refl w.heap.size w)
  have H : ((span_of.f a0_0 a0_1 a0_2).bind fun bt102 => (if bt102.2.2 = true then (if bt102.1 = true then (if a0_1 < 0 then (span_May.j0 k true a0_0 a0_1 a0_2 bt102.1 bt102.2.1) else (span_May.j0 k (decide (a0_1 > 1048576)) a0_0 a0_1 a0_2 bt102.1 bt102.2.1)) else (span_May.j0 k false a0_0 a0_1 a0_2 bt102.1 bt102.2.1)) else (some 1))) = some r := h
  clear h
  replace H := Option.bind_eq_some_iff.mp H
  obtain ⟨⟨t102, t103, t104⟩, A20, H⟩ := H
  replace H : (if t104 = true then (if t102 = true then (if a0_1 < 0 then (span_May.j0 k true a0_0 a0_1 a0_2 t102 t103) else (span_May.j0 k (decide (a0_1 > 1048576)) a0_0 a0_1 a0_2 t102 t103)) else (span_May.j0 k false a0_0 a0_1 a0_2 t102 t103)) else (some 1)) = some r := H
  have A2 := Aside0.mk A20
  clear A20
  by_cases c3 : t104 = true
  · subst c3
    have H1 : (if t102 = true then (if a0_1 < 0 then (span_May.j0 k true a0_0 a0_1 a0_2 t102 t103) else (span_May.j0 k (decide (a0_1 > 1048576)) a0_0 a0_1 a0_2 t102 t103)) else (span_May.j0 k false a0_0 a0_1 a0_2 t102 t103)) = some r := by rw [if_pos rfl] at H; exact H
    clear H
    have H := H1
    clear H1
    have HC4 := Aside0.mk H
    clear H
    go_enter Tryd.func82, Tryd.ntmps82
    go_upto_region 4 with (first | ((with_reducible refine gate_dst (N := 1) rfl ?_); refine box_event ?hg (N := 1) ?hd (cs := #[.int .i64 a0_0, .int .i64 a0_1, .string a0_2]) (t := 26) ?hr ?_; (case hd => rfl); (case hg => rfl); (case hr => first | (go_simp; done) | (go_simp; rfl)); intro gb101 hg w5 hbox hb; have n0_ := Aside0.mk (below_step (by repeat (first | (with_reducible first | exact HB.out | apply below_alloc | apply pw_below_drewN | apply below_drew1) | exact HB.out)) hb); have n1_ := Aside0.mk (hbox); have n2_ := Aside0.mk ((by rw [hg]; exact (below_size (by repeat (first | (with_reducible first | exact HB.out | apply below_alloc | apply pw_below_drewN | apply below_drew1) | exact HB.out))) : w.heap.size ≤ gb101)); have n3_ := Aside0.mk ((by rw [hg]; exact (below_size (by repeat (first | (with_reducible first | exact HB.out | apply below_alloc | apply pw_below_drewN | apply below_drew1) | exact HB.out))) : w.heap.size ≤ gb101)); clear HB; have HB := n0_; have BK101 := n1_; have GW101 := n2_; have GE101 := n3_; clear n0_ n1_ n2_ n3_; clear hb hbox hg; have hcz6_0 : w5.cell? ⟨gb101, 0, none⟩ = some (.int .i64 a0_0) := (blk_cell BK101.out 0).trans rfl; have hcz6_1 : w5.cell? ⟨gb101, 1, none⟩ = some (.int .i64 a0_1) := (blk_cell BK101.out 1).trans rfl; have hcz6_2 : w5.cell? ⟨gb101, 2, none⟩ = some (.string a0_2) := (blk_cell BK101.out 2).trans rfl; have hfz6_0 := blk_frozen BK101.out 0; have hfz6_1 := blk_frozen BK101.out 1; have hfz6_2 := blk_frozen BK101.out 2) | ((with_reducible refine gate_callee (f := 83) rfl ?_); refine goesL_ (some 7) rfl rfl Tryd.func83 (by kernel_rfl) rfl #[.agg #[.int .i64 a0_0, .int .i64 a0_1, .string a0_2]] rfl (by (try simp only [List.map_toArray, List.map_cons, List.map_nil]); first | done | rfl | (simp only [List.length_drop, List.length_take]; rfl)) ?_; (with_reducible refine (span_of.calls a0_0 a0_1 a0_2 t102 t103 true _ ?side1 A2.out).mono ?_); (case side1 => first | (with_reducible exact HG.out) | exact Glob.below HG.out (by repeat (first | (with_reducible first | exact HB.out | apply below_alloc | apply pw_below_drewN | apply below_drew1 | refine below_set ?_ GE101.out) | exact HB.out)) | exact Glob.drawn HG.out (by repeat (first | exact Drawn0.refl _ | apply Drawn0.step))); rintro e w7 ⟨rfl, hb⟩; refine ⟨_, rfl, ?_⟩; have n0_ := Aside0.mk (blk_below (g := gb101) (o := .cells #[.int .i64 a0_0, .int .i64 a0_1, .string a0_2] 26 (0, 0)) (by (with_reducible repeat (first | refine blk_drewN ?_ _ | refine blk_drew ?_ | refine blk_alloc ?_ _)); exact BK101.out) hb); have n1_ := Aside0.mk (below_step (by repeat (first | (with_reducible first | exact HB.out | apply below_alloc | apply pw_below_drewN | apply below_drew1 | refine below_set ?_ GE101.out) | exact HB.out)) hb); clear BK101; clear HB; have BK101 := n0_; have HB := n1_; clear n0_ n1_; (try clear hb); (try clear hb2); (try clear hk); (try clear hi)) | ((with_reducible refine gate_dst (N := 3) rfl ?_); refine box_event ?hg (N := 3) ?hd (cs := #[.bool false, .bool false]) (t := 102) ?hr ?_; (case hd => rfl); (case hg => rfl); (case hr => first | (go_simp; done) | (go_simp; rfl)); intro gb105 hg w8 hbox hb; have n0_ := Aside0.mk (blk_below (g := gb101) (o := .cells #[.int .i64 a0_0, .int .i64 a0_1, .string a0_2] 26 (0, 0)) (by (with_reducible repeat (first | refine blk_drewN ?_ _ | refine blk_drew ?_ | refine blk_alloc ?_ _)); exact BK101.out) hb); have n1_ := Aside0.mk (below_step (by repeat (first | (with_reducible first | exact HB.out | apply below_alloc | apply pw_below_drewN | apply below_drew1 | refine below_set ?_ GE101.out) | exact HB.out)) hb); have n2_ := Aside0.mk (hbox); have n3_ := Aside0.mk ((by rw [hg]; exact (below_size (by repeat (first | (with_reducible first | exact HB.out | apply below_alloc | apply pw_below_drewN | apply below_drew1 | refine below_set ?_ GE101.out) | exact HB.out))) : w.heap.size ≤ gb105)); have n4_ := Aside0.mk ((by rw [hg]; exact (below_size (by repeat (first | (with_reducible first | exact HB.out | apply below_alloc | apply pw_below_drewN | apply below_drew1 | refine below_set ?_ GE101.out) | exact HB.out))) : w.heap.size ≤ gb105)); have n5_ := Aside0.mk ((by rw [hg]; exact Nat.ne_of_lt (blk_lt (g := gb101) (o := .cells #[.int .i64 a0_0, .int .i64 a0_1, .string a0_2] 26 (0, 0)) (by (with_reducible repeat (first | refine blk_drewN ?_ _ | refine blk_drew ?_ | refine blk_alloc ?_ _)); exact BK101.out)) : gb101 ≠ gb105)); have n6_ := Aside0.mk ((by rw [hg]; exact Nat.ne_of_gt (blk_lt (g := gb101) (o := .cells #[.int .i64 a0_0, .int .i64 a0_1, .string a0_2] 26 (0, 0)) (by (with_reducible repeat (first | refine blk_drewN ?_ _ | refine blk_drew ?_ | refine blk_alloc ?_ _)); exact BK101.out)) : gb105 ≠ gb101)); clear BK101; clear HB; have BK101 := n0_; have HB := n1_; have BK105 := n2_; have GW105 := n3_; have GE105 := n4_; have NB101_105 := n5_; have NB105_101 := n6_; clear n0_ n1_ n2_ n3_ n4_ n5_ n6_; clear hb hbox hg; have hnb9 := NB105_101.out; have hnc9 := NB101_105.out; have hcz10_0 : w8.cell? ⟨gb105, 0, none⟩ = some (.bool false) := (blk_cell BK105.out 0).trans rfl; have hcz10_1 : w8.cell? ⟨gb105, 1, none⟩ = some (.bool false) := (blk_cell BK105.out 1).trans rfl; have hfz10_0 := blk_frozen BK105.out 0; have hfz10_1 := blk_frozen BK105.out 1))
    (try simp only [Act.put, List.setIfInBounds_toArray, List.set_cons_zero, List.set_cons_succ])
    go_cut [13] (fun v13 wc => ∃ (kq : Nat) (x13_3 : Bool), v13 = .bool x13_3 ∧ Aside0 (span_May.j0 kq x13_3 a0_0 a0_1 a0_2 t102 t103 = some r) ∧ Aside0 (kq ≤ k) ∧ Aside0 (wc.heap[gb101]? = some (.cells #[.int .i64 a0_0, .int .i64 a0_1, .string a0_2] 26 (0, 0))) ∧ Aside0 (wc.heap[gb105]? = some (.cells #[.bool t102, .bool t103] 102 (0, 0))) ∧ Aside0 (Below w.heap.size w wc))
    case first =>
      have H := HC4.out
      clear HC4
      by_cases c11 : t102 = true
      · subst c11
        have H1 : (if a0_1 < 0 then (span_May.j0 k true a0_0 a0_1 a0_2 true t103) else (span_May.j0 k (decide (a0_1 > 1048576)) a0_0 a0_1 a0_2 true t103)) = some r := by rw [if_pos rfl] at H; exact H
        clear H
        have H := H1
        clear H1
        by_cases c12 : a0_1 < 0
        · rw [if_pos c12] at H
          have c12b0 : decide (a0_1 < 0) = true := decide_eq_true c12
          clear c12
          (first | rw [c12b0] | (simp only [i64_w, i32_w]; rw [c12b0]) | skip)
          have H' := Aside0.mk H
          clear H
          have hnb13 := NB105_101.out
          have hnc13 := NB101_105.out
          have hcz14_0 : w8.cell? ⟨gb105, 0, none⟩ = some (.bool false) := (blk_cell BK105.out 0).trans rfl
          have hcz14_1 : w8.cell? ⟨gb105, 1, none⟩ = some (.bool false) := (blk_cell BK105.out 1).trans rfl
          have hfz14_0 := blk_frozen BK105.out 0
          have hfz14_1 := blk_frozen BK105.out 1
          have hcz15_0 : w8.cell? ⟨gb101, 0, none⟩ = some (.int .i64 a0_0) := (blk_cell BK101.out 0).trans rfl
          have hcz15_1 : w8.cell? ⟨gb101, 1, none⟩ = some (.int .i64 a0_1) := (blk_cell BK101.out 1).trans rfl
          have hcz15_2 : w8.cell? ⟨gb101, 2, none⟩ = some (.string a0_2) := (blk_cell BK101.out 2).trans rfl
          have hfz15_0 := blk_frozen BK101.out 0
          have hfz15_1 := blk_frozen BK101.out 1
          have hfz15_2 := blk_frozen BK101.out 2
          go_wp2
          go_meet
          case rel => exact ⟨_, (true), (by first | rfl | (simp; done) | (simp [*]; done) | (simp [isEmpty_bne]; done)), H', ⟨by first | omega | exact Nat.le_refl _⟩, ⟨by (with_reducible repeat (first | refine blk_drewN ?_ _ | refine blk_drew ?_ | refine blk_alloc ?_ _)); refine blk_far ?_ NB101_105.out _; (with_reducible repeat (first | refine blk_drewN ?_ _ | refine blk_drew ?_ | refine blk_alloc ?_ _)); refine blk_far ?_ NB101_105.out _; (with_reducible repeat (first | refine blk_drewN ?_ _ | refine blk_drew ?_ | refine blk_alloc ?_ _)); exact BK101.out⟩, ⟨by (with_reducible repeat (first | refine blk_drewN ?_ _ | refine blk_drew ?_ | refine blk_alloc ?_ _)); refine blk_put (cs := #[.bool true, .bool false]) ?_ 1 _ rfl; (with_reducible repeat (first | refine blk_drewN ?_ _ | refine blk_drew ?_ | refine blk_alloc ?_ _)); refine blk_put (cs := #[.bool false, .bool false]) ?_ 0 _ rfl; (with_reducible repeat (first | refine blk_drewN ?_ _ | refine blk_drew ?_ | refine blk_alloc ?_ _)); exact BK105.out⟩, ⟨by repeat (first | (with_reducible first | exact HB.out | apply below_alloc | apply pw_below_drewN | apply below_drew1 | refine below_set ?_ GE101.out | refine below_set ?_ GE105.out) | exact HB.out)⟩⟩
        · rw [if_neg c12] at H
          have c12b0 : decide (a0_1 < 0) = false := decide_eq_false c12
          clear c12
          (first | rw [c12b0] | (simp only [i64_w, i32_w]; rw [c12b0]) | skip)
          have H' := Aside0.mk H
          clear H
          have hnb16 := NB105_101.out
          have hnc16 := NB101_105.out
          have hcz17_0 : w8.cell? ⟨gb105, 0, none⟩ = some (.bool false) := (blk_cell BK105.out 0).trans rfl
          have hcz17_1 : w8.cell? ⟨gb105, 1, none⟩ = some (.bool false) := (blk_cell BK105.out 1).trans rfl
          have hfz17_0 := blk_frozen BK105.out 0
          have hfz17_1 := blk_frozen BK105.out 1
          have hcz18_0 : w8.cell? ⟨gb101, 0, none⟩ = some (.int .i64 a0_0) := (blk_cell BK101.out 0).trans rfl
          have hcz18_1 : w8.cell? ⟨gb101, 1, none⟩ = some (.int .i64 a0_1) := (blk_cell BK101.out 1).trans rfl
          have hcz18_2 : w8.cell? ⟨gb101, 2, none⟩ = some (.string a0_2) := (blk_cell BK101.out 2).trans rfl
          have hfz18_0 := blk_frozen BK101.out 0
          have hfz18_1 := blk_frozen BK101.out 1
          have hfz18_2 := blk_frozen BK101.out 2
          go_wp2
          go_meet
          case rel => exact ⟨_, (decide (a0_1 > 1048576)), (by first | rfl | (simp; done) | (simp [*]; done) | (simp [isEmpty_bne]; done)), H', ⟨by first | omega | exact Nat.le_refl _⟩, ⟨by (with_reducible repeat (first | refine blk_drewN ?_ _ | refine blk_drew ?_ | refine blk_alloc ?_ _)); refine blk_far ?_ NB101_105.out _; (with_reducible repeat (first | refine blk_drewN ?_ _ | refine blk_drew ?_ | refine blk_alloc ?_ _)); refine blk_far ?_ NB101_105.out _; (with_reducible repeat (first | refine blk_drewN ?_ _ | refine blk_drew ?_ | refine blk_alloc ?_ _)); exact BK101.out⟩, ⟨by (with_reducible repeat (first | refine blk_drewN ?_ _ | refine blk_drew ?_ | refine blk_alloc ?_ _)); refine blk_put (cs := #[.bool true, .bool false]) ?_ 1 _ rfl; (with_reducible repeat (first | refine blk_drewN ?_ _ | refine blk_drew ?_ | refine blk_alloc ?_ _)); refine blk_put (cs := #[.bool false, .bool false]) ?_ 0 _ rfl; (with_reducible repeat (first | refine blk_drewN ?_ _ | refine blk_drew ?_ | refine blk_alloc ?_ _)); exact BK105.out⟩, ⟨by repeat (first | (with_reducible first | exact HB.out | apply below_alloc | apply pw_below_drewN | apply below_drew1 | refine below_set ?_ GE101.out | refine below_set ?_ GE105.out) | exact HB.out)⟩⟩
      · replace c11 := Bool.eq_false_iff.mpr c11
        subst c11
        have H1 : (span_May.j0 k false a0_0 a0_1 a0_2 false t103) = some r := by rw [if_neg (show ¬ (false = true) by decide)] at H; exact H
        clear H
        have H := H1
        clear H1
        have H' := Aside0.mk H
        clear H
        have hnb19 := NB105_101.out
        have hnc19 := NB101_105.out
        have hcz20_0 : w8.cell? ⟨gb105, 0, none⟩ = some (.bool false) := (blk_cell BK105.out 0).trans rfl
        have hcz20_1 : w8.cell? ⟨gb105, 1, none⟩ = some (.bool false) := (blk_cell BK105.out 1).trans rfl
        have hfz20_0 := blk_frozen BK105.out 0
        have hfz20_1 := blk_frozen BK105.out 1
        go_wp2
        go_meet
        case rel => exact ⟨_, (false), (by first | rfl | (simp; done) | (simp [*]; done) | (simp [isEmpty_bne]; done)), H', ⟨by first | omega | exact Nat.le_refl _⟩, ⟨by (with_reducible repeat (first | refine blk_drewN ?_ _ | refine blk_drew ?_ | refine blk_alloc ?_ _)); refine blk_far ?_ NB101_105.out _; (with_reducible repeat (first | refine blk_drewN ?_ _ | refine blk_drew ?_ | refine blk_alloc ?_ _)); refine blk_far ?_ NB101_105.out _; (with_reducible repeat (first | refine blk_drewN ?_ _ | refine blk_drew ?_ | refine blk_alloc ?_ _)); exact BK101.out⟩, ⟨by (with_reducible repeat (first | refine blk_drewN ?_ _ | refine blk_drew ?_ | refine blk_alloc ?_ _)); refine blk_put (cs := #[.bool false, .bool false]) ?_ 1 _ rfl; (with_reducible repeat (first | refine blk_drewN ?_ _ | refine blk_drew ?_ | refine blk_alloc ?_ _)); refine blk_put (cs := #[.bool false, .bool false]) ?_ 0 _ rfl; (with_reducible repeat (first | refine blk_drewN ?_ _ | refine blk_drew ?_ | refine blk_alloc ?_ _)); exact BK105.out⟩, ⟨by repeat (first | (with_reducible first | exact HB.out | apply below_alloc | apply pw_below_drewN | apply below_drew1 | refine below_set ?_ GE101.out | refine below_set ?_ GE105.out) | exact HB.out)⟩⟩
    case rest =>
      clear HC4
      try clear c1
      try clear p2
      try clear c3
      try clear c8
      try clear c9
      try clear c11
      try clear c12
      try clear c12b0
      try clear c13
      try clear c16
      try clear c19
      try clear hcz10_0
      try clear hcz10_1
      try clear hcz14_0
      try clear hcz14_1
      try clear hcz15_0
      try clear hcz15_1
      try clear hcz15_2
      try clear hcz17_0
      try clear hcz17_1
      try clear hcz18_0
      try clear hcz18_1
      try clear hcz18_2
      try clear hcz20_0
      try clear hcz20_1
      try clear hcz6_0
      try clear hcz6_1
      try clear hcz6_2
      try clear hfz10_0
      try clear hfz10_1
      try clear hfz14_0
      try clear hfz14_1
      try clear hfz15_0
      try clear hfz15_1
      try clear hfz15_2
      try clear hfz17_0
      try clear hfz17_1
      try clear hfz18_0
      try clear hfz18_1
      try clear hfz18_2
      try clear hfz20_0
      try clear hfz20_1
      try clear hfz6_0
      try clear hfz6_1
      try clear hfz6_2
      obtain ⟨kq, x13_3, rfl, HA, HJ3, BK101, BK105, HB⟩ := hcut
      cases kq with
      | zero => exact absurd HA.out (by simp [span_May.j0])
      | succ kj3 =>
        have H := HA.out
        clear HA
        simp only [span_May.j0] at H
        have HC21 := Aside0.mk H
        clear H
        go_upto_if 13 with (fail)
        go_cut [13] (fun v13 wc => ∃ (kq : Nat) (x13_20 : Bool), v13 = .bool x13_20 ∧ Aside0 (span_May.j1 kq x13_20 a0_0 a0_1 a0_2 t102 t103 = some r) ∧ Aside0 (kq ≤ kj3) ∧ Aside0 (wc.heap[gb101]? = some (.cells #[.int .i64 a0_0, .int .i64 a0_1, .string a0_2] 26 (0, 0))) ∧ Aside0 (wc.heap[gb105]? = some (.cells #[.bool t102, .bool t103] 102 (0, 0))) ∧ Aside0 (Below w.heap.size w wc))
        case first =>
          have H := HC21.out
          clear HC21
          by_cases c22 : x13_3 = true
          · subst c22
            have H1 : (span_May.j1 kj3 true a0_0 a0_1 a0_2 t102 t103) = some r := by rw [if_pos rfl] at H; exact H
            clear H
            have H := H1
            clear H1
            have H' := Aside0.mk H
            clear H
            go_wp2
            go_meet
            case rel => exact ⟨_, (true), (by first | rfl | (simp; done) | (simp [*]; done) | (simp [isEmpty_bne]; done)), H', ⟨by have := HJ3.out; first | omega | exact Nat.le_refl _⟩, ⟨by (with_reducible repeat (first | refine blk_drewN ?_ _ | refine blk_drew ?_ | refine blk_alloc ?_ _)); exact BK101.out⟩, ⟨by (with_reducible repeat (first | refine blk_drewN ?_ _ | refine blk_drew ?_ | refine blk_alloc ?_ _)); exact BK105.out⟩, ⟨by repeat (first | (with_reducible first | exact HB.out | apply below_alloc | apply pw_below_drewN | apply below_drew1 | refine below_set ?_ GE101.out | refine below_set ?_ GE105.out) | exact HB.out)⟩⟩
          · replace c22 := Bool.eq_false_iff.mpr c22
            subst c22
            have H1 : (if t102 = true then (span_May.j1 kj3 false a0_0 a0_1 a0_2 t102 t103) else (span_May.j1 kj3 (a0_1 != 0) a0_0 a0_1 a0_2 t102 t103)) = some r := by rw [if_neg (show ¬ (false = true) by decide)] at H; exact H
            clear H
            have H := H1
            clear H1
            by_cases c23 : t102 = true
            · subst c23
              have H1 : (span_May.j1 kj3 false a0_0 a0_1 a0_2 true t103) = some r := by rw [if_pos rfl] at H; exact H
              clear H
              have H := H1
              clear H1
              have H' := Aside0.mk H
              clear H
              have hnb24 := NB105_101.out
              have hnc24 := NB101_105.out
              have hcz25_0 : wc.cell? ⟨gb105, 0, none⟩ = some (.bool true) := (blk_cell BK105.out 0).trans rfl
              have hcz25_1 : wc.cell? ⟨gb105, 1, none⟩ = some (.bool t103) := (blk_cell BK105.out 1).trans rfl
              have hfz25_0 := blk_frozen BK105.out 0
              have hfz25_1 := blk_frozen BK105.out 1
              go_wp2
              go_meet
              case rel => exact ⟨_, (false), (by first | rfl | (simp; done) | (simp [*]; done) | (simp [isEmpty_bne]; done)), H', ⟨by have := HJ3.out; first | omega | exact Nat.le_refl _⟩, ⟨by (with_reducible repeat (first | refine blk_drewN ?_ _ | refine blk_drew ?_ | refine blk_alloc ?_ _)); exact BK101.out⟩, ⟨by (with_reducible repeat (first | refine blk_drewN ?_ _ | refine blk_drew ?_ | refine blk_alloc ?_ _)); exact BK105.out⟩, ⟨by repeat (first | (with_reducible first | exact HB.out | apply below_alloc | apply pw_below_drewN | apply below_drew1 | refine below_set ?_ GE101.out | refine below_set ?_ GE105.out) | exact HB.out)⟩⟩
            · replace c23 := Bool.eq_false_iff.mpr c23
              subst c23
              have H1 : (span_May.j1 kj3 (a0_1 != 0) a0_0 a0_1 a0_2 false t103) = some r := by rw [if_neg (show ¬ (false = true) by decide)] at H; exact H
              clear H
              have H := H1
              clear H1
              have H' := Aside0.mk H
              clear H
              have hnb26 := NB105_101.out
              have hnc26 := NB101_105.out
              have hcz27_0 : wc.cell? ⟨gb105, 0, none⟩ = some (.bool false) := (blk_cell BK105.out 0).trans rfl
              have hcz27_1 : wc.cell? ⟨gb105, 1, none⟩ = some (.bool t103) := (blk_cell BK105.out 1).trans rfl
              have hfz27_0 := blk_frozen BK105.out 0
              have hfz27_1 := blk_frozen BK105.out 1
              have hcz28_0 : wc.cell? ⟨gb101, 0, none⟩ = some (.int .i64 a0_0) := (blk_cell BK101.out 0).trans rfl
              have hcz28_1 : wc.cell? ⟨gb101, 1, none⟩ = some (.int .i64 a0_1) := (blk_cell BK101.out 1).trans rfl
              have hcz28_2 : wc.cell? ⟨gb101, 2, none⟩ = some (.string a0_2) := (blk_cell BK101.out 2).trans rfl
              have hfz28_0 := blk_frozen BK101.out 0
              have hfz28_1 := blk_frozen BK101.out 1
              have hfz28_2 := blk_frozen BK101.out 2
              go_wp2
              go_meet
              case rel => exact ⟨_, ((a0_1 != 0)), (by first | rfl | (simp; done) | (simp [*]; done) | (simp [isEmpty_bne]; done)), H', ⟨by have := HJ3.out; first | omega | exact Nat.le_refl _⟩, ⟨by (with_reducible repeat (first | refine blk_drewN ?_ _ | refine blk_drew ?_ | refine blk_alloc ?_ _)); exact BK101.out⟩, ⟨by (with_reducible repeat (first | refine blk_drewN ?_ _ | refine blk_drew ?_ | refine blk_alloc ?_ _)); exact BK105.out⟩, ⟨by repeat (first | (with_reducible first | exact HB.out | apply below_alloc | apply pw_below_drewN | apply below_drew1 | refine below_set ?_ GE101.out | refine below_set ?_ GE105.out) | exact HB.out)⟩⟩
        case rest =>
          clear HC21
          try clear c1
          try clear c2
          try clear p2
          try clear c3
          try clear c8
          try clear c9
          try clear c11
          try clear c12
          try clear c12b0
          try clear c13
          try clear c16
          try clear c19
          try clear c22
          try clear c23
          try clear c24
          try clear c26
          try clear hcz10_0
          try clear hcz10_1
          try clear hcz14_0
          try clear hcz14_1
          try clear hcz15_0
          try clear hcz15_1
          try clear hcz15_2
          try clear hcz17_0
          try clear hcz17_1
          try clear hcz18_0
          try clear hcz18_1
          try clear hcz18_2
          try clear hcz20_0
          try clear hcz20_1
          try clear hcz25_0
          try clear hcz25_1
          try clear hcz27_0
          try clear hcz27_1
          try clear hcz28_0
          try clear hcz28_1
          try clear hcz28_2
          try clear hcz6_0
          try clear hcz6_1
          try clear hcz6_2
          try clear hfz10_0
          try clear hfz10_1
          try clear hfz14_0
          try clear hfz14_1
          try clear hfz15_0
          try clear hfz15_1
          try clear hfz15_2
          try clear hfz17_0
          try clear hfz17_1
          try clear hfz18_0
          try clear hfz18_1
          try clear hfz18_2
          try clear hfz20_0
          try clear hfz20_1
          try clear hfz25_0
          try clear hfz25_1
          try clear hfz27_0
          try clear hfz27_1
          try clear hfz28_0
          try clear hfz28_1
          try clear hfz28_2
          try clear hfz6_0
          try clear hfz6_1
          try clear hfz6_2
          try clear p2
          obtain ⟨kq, x13_20, rfl, HA, HJ20, BK101, BK105, HB⟩ := hcut
          cases kq with
          | zero => exact absurd HA.out (by simp [span_May.j1])
          | succ kj20 =>
            have H := HA.out
            clear HA
            simp only [span_May.j1] at H
            by_cases c29 : x13_20 = true
            · subst c29
              have H1 : (some 2) = some r := by rw [if_pos rfl] at H; exact H
              clear H
              have H := H1
              clear H1
              obtain rfl := Option.some.inj H
              go_wp2
              go_ret
              exact ⟨by first | rfl | (simp [errW_none, errW_some] <;> rfl) | (simp [*, errW_none, errW_some] <;> rfl), by repeat (first | (with_reducible first | exact HB.out | apply below_alloc | apply pw_below_drewN | apply below_drew1 | refine below_set ?_ GE101.out | refine below_set ?_ GE105.out) | exact HB.out)⟩
            · replace c29 := Bool.eq_false_iff.mpr c29
              subst c29
              have H1 : (if t102 = true then (span_May.j2 kj20 (a0_2.toList != ([] : List UInt8)) a0_0 a0_1 a0_2) else (span_May.j2 kj20 false a0_0 a0_1 a0_2)) = some r := by rw [if_neg (show ¬ (false = true) by decide)] at H; exact H
              clear H
              have H := H1
              clear H1
              have HC30 := Aside0.mk H
              clear H
              go_upto_region 7 with (fail)
              go_cut [34] (fun v34 wc => ∃ (kq : Nat) (x34_29 : Bool), v34 = .bool x34_29 ∧ Aside0 (span_May.j2 kq x34_29 a0_0 a0_1 a0_2 = some r) ∧ Aside0 (kq ≤ kj20) ∧ Aside0 (wc.heap[gb101]? = some (.cells #[.int .i64 a0_0, .int .i64 a0_1, .string a0_2] 26 (0, 0))) ∧ Aside0 (wc.heap[gb105]? = some (.cells #[.bool t102, .bool t103] 102 (0, 0))) ∧ Aside0 (Below w.heap.size w wc))
              case first =>
                have H := HC30.out
                clear HC30
                by_cases c31 : t102 = true
                · subst c31
                  have H1 : (span_May.j2 kj20 (a0_2.toList != ([] : List UInt8)) a0_0 a0_1 a0_2) = some r := by rw [if_pos rfl] at H; exact H
                  clear H
                  have H := H1
                  clear H1
                  have H' := Aside0.mk H
                  clear H
                  have hnb32 := NB105_101.out
                  have hnc32 := NB101_105.out
                  have hcz33_0 : wc.cell? ⟨gb105, 0, none⟩ = some (.bool true) := (blk_cell BK105.out 0).trans rfl
                  have hcz33_1 : wc.cell? ⟨gb105, 1, none⟩ = some (.bool t103) := (blk_cell BK105.out 1).trans rfl
                  have hfz33_0 := blk_frozen BK105.out 0
                  have hfz33_1 := blk_frozen BK105.out 1
                  have hcz34_0 : wc.cell? ⟨gb101, 0, none⟩ = some (.int .i64 a0_0) := (blk_cell BK101.out 0).trans rfl
                  have hcz34_1 : wc.cell? ⟨gb101, 1, none⟩ = some (.int .i64 a0_1) := (blk_cell BK101.out 1).trans rfl
                  have hcz34_2 : wc.cell? ⟨gb101, 2, none⟩ = some (.string a0_2) := (blk_cell BK101.out 2).trans rfl
                  have hfz34_0 := blk_frozen BK101.out 0
                  have hfz34_1 := blk_frozen BK101.out 1
                  have hfz34_2 := blk_frozen BK101.out 2
                  go_wp2
                  go_meet
                  case rel => exact ⟨_, ((a0_2.toList != ([] : List UInt8))), (by first | rfl | (simp; done) | (simp [*]; done) | (simp [isEmpty_bne]; done)), H', ⟨by have := HJ3.out; have := HJ20.out; first | omega | exact Nat.le_refl _⟩, ⟨by (with_reducible repeat (first | refine blk_drewN ?_ _ | refine blk_drew ?_ | refine blk_alloc ?_ _)); exact BK101.out⟩, ⟨by (with_reducible repeat (first | refine blk_drewN ?_ _ | refine blk_drew ?_ | refine blk_alloc ?_ _)); exact BK105.out⟩, ⟨by repeat (first | (with_reducible first | exact HB.out | apply below_alloc | apply pw_below_drewN | apply below_drew1 | refine below_set ?_ GE101.out | refine below_set ?_ GE105.out) | exact HB.out)⟩⟩
                · replace c31 := Bool.eq_false_iff.mpr c31
                  subst c31
                  have H1 : (span_May.j2 kj20 false a0_0 a0_1 a0_2) = some r := by rw [if_neg (show ¬ (false = true) by decide)] at H; exact H
                  clear H
                  have H := H1
                  clear H1
                  have H' := Aside0.mk H
                  clear H
                  have hnb35 := NB105_101.out
                  have hnc35 := NB101_105.out
                  have hcz36_0 : wc.cell? ⟨gb105, 0, none⟩ = some (.bool false) := (blk_cell BK105.out 0).trans rfl
                  have hcz36_1 : wc.cell? ⟨gb105, 1, none⟩ = some (.bool t103) := (blk_cell BK105.out 1).trans rfl
                  have hfz36_0 := blk_frozen BK105.out 0
                  have hfz36_1 := blk_frozen BK105.out 1
                  go_wp2
                  go_meet
                  case rel => exact ⟨_, (false), (by first | rfl | (simp; done) | (simp [*]; done) | (simp [isEmpty_bne]; done)), H', ⟨by have := HJ3.out; have := HJ20.out; first | omega | exact Nat.le_refl _⟩, ⟨by (with_reducible repeat (first | refine blk_drewN ?_ _ | refine blk_drew ?_ | refine blk_alloc ?_ _)); exact BK101.out⟩, ⟨by (with_reducible repeat (first | refine blk_drewN ?_ _ | refine blk_drew ?_ | refine blk_alloc ?_ _)); exact BK105.out⟩, ⟨by repeat (first | (with_reducible first | exact HB.out | apply below_alloc | apply pw_below_drewN | apply below_drew1 | refine below_set ?_ GE101.out | refine below_set ?_ GE105.out) | exact HB.out)⟩⟩
              case rest =>
                clear HC30
                try clear c1
                try clear c2
                try clear p2
                try clear c3
                try clear c8
                try clear c9
                try clear c11
                try clear c12
                try clear c12b0
                try clear c13
                try clear c16
                try clear c19
                try clear c22
                try clear c23
                try clear c24
                try clear c26
                try clear c29
                try clear c31
                try clear c32
                try clear c35
                try clear hcz10_0
                try clear hcz10_1
                try clear hcz14_0
                try clear hcz14_1
                try clear hcz15_0
                try clear hcz15_1
                try clear hcz15_2
                try clear hcz17_0
                try clear hcz17_1
                try clear hcz18_0
                try clear hcz18_1
                try clear hcz18_2
                try clear hcz20_0
                try clear hcz20_1
                try clear hcz25_0
                try clear hcz25_1
                try clear hcz27_0
                try clear hcz27_1
                try clear hcz28_0
                try clear hcz28_1
                try clear hcz28_2
                try clear hcz33_0
                try clear hcz33_1
                try clear hcz34_0
                try clear hcz34_1
                try clear hcz34_2
                try clear hcz36_0
                try clear hcz36_1
                try clear hcz6_0
                try clear hcz6_1
                try clear hcz6_2
                try clear hfz10_0
                try clear hfz10_1
                try clear hfz14_0
                try clear hfz14_1
                try clear hfz15_0
                try clear hfz15_1
                try clear hfz15_2
                try clear hfz17_0
                try clear hfz17_1
                try clear hfz18_0
                try clear hfz18_1
                try clear hfz18_2
                try clear hfz20_0
                try clear hfz20_1
                try clear hfz25_0
                try clear hfz25_1
                try clear hfz27_0
                try clear hfz27_1
                try clear hfz28_0
                try clear hfz28_1
                try clear hfz28_2
                try clear hfz33_0
                try clear hfz33_1
                try clear hfz34_0
                try clear hfz34_1
                try clear hfz34_2
                try clear hfz36_0
                try clear hfz36_1
                try clear hfz6_0
                try clear hfz6_1
                try clear hfz6_2
                try clear p2
                obtain ⟨kq, x34_29, rfl, HA, HJ29, BK101, BK105, HB⟩ := hcut
                cases kq with
                | zero => exact absurd HA.out (by simp [span_May.j2])
                | succ kj29 =>
                  have H := HA.out
                  clear HA
                  simp only [span_May.j2] at H
                  by_cases c37 : x34_29 = true
                  · subst c37
                    have H1 : (some 3) = some r := by rw [if_pos rfl] at H; exact H
                    clear H
                    have H := H1
                    clear H1
                    obtain rfl := Option.some.inj H
                    go_wp2
                    go_ret
                    exact ⟨by first | rfl | (simp [errW_none, errW_some] <;> rfl) | (simp [*, errW_none, errW_some] <;> rfl), by repeat (first | (with_reducible first | exact HB.out | apply below_alloc | apply pw_below_drewN | apply below_drew1 | refine below_set ?_ GE101.out | refine below_set ?_ GE105.out) | exact HB.out)⟩
                  · replace c37 := Bool.eq_false_iff.mpr c37
                    subst c37
                    have H1 : ((points_Valid.f a0_2).bind fun t106 => (if t106 = true then (some 0) else (some 3))) = some r := by rw [if_neg (show ¬ (false = true) by decide)] at H; exact H
                    clear H
                    have H := H1
                    clear H1
                    replace H := Option.bind_eq_some_iff.mp H
                    obtain ⟨t106, A380, H⟩ := H
                    replace H : (if t106 = true then (some 0) else (some 3)) = some r := H
                    have A38 := Aside0.mk A380
                    clear A380
                    by_cases c39 : t106 = true
                    · subst c39
                      have H1 : (some 0) = some r := by rw [if_pos rfl] at H; exact H
                      clear H
                      have H := H1
                      clear H1
                      obtain rfl := Option.some.inj H
                      have hnb40 := NB101_105.out
                      have hnc40 := NB105_101.out
                      have hcz41_0 : wc.cell? ⟨gb101, 0, none⟩ = some (.int .i64 a0_0) := (blk_cell BK101.out 0).trans rfl
                      have hcz41_1 : wc.cell? ⟨gb101, 1, none⟩ = some (.int .i64 a0_1) := (blk_cell BK101.out 1).trans rfl
                      have hcz41_2 : wc.cell? ⟨gb101, 2, none⟩ = some (.string a0_2) := (blk_cell BK101.out 2).trans rfl
                      have hfz41_0 := blk_frozen BK101.out 0
                      have hfz41_1 := blk_frozen BK101.out 1
                      have hfz41_2 := blk_frozen BK101.out 2
                      go_wp2_with (first | ((with_reducible refine gate_callee (f := 55) rfl ?_); refine goesL_ (some 44) rfl rfl Tryd.func55 (by kernel_rfl) rfl #[.string a0_2] rfl (by (try simp only [List.map_toArray, List.map_cons, List.map_nil]); first | done | rfl | (simp only [List.length_drop, List.length_take]; rfl)) ?_; (with_reducible refine (points_Valid.calls a0_2 true _ ?side1 A38.out).mono ?_); (case side1 => first | (with_reducible exact HG.out) | exact Glob.below HG.out (by repeat (first | (with_reducible first | exact HB.out | apply below_alloc | apply pw_below_drewN | apply below_drew1 | refine below_set ?_ GE101.out | refine below_set ?_ GE105.out) | exact HB.out)) | exact Glob.drawn HG.out (by repeat (first | exact Drawn0.refl _ | apply Drawn0.step))); rintro e w42 ⟨rfl, hb⟩; refine ⟨_, rfl, ?_⟩; have n0_ := Aside0.mk (blk_below (g := gb101) (o := .cells #[.int .i64 a0_0, .int .i64 a0_1, .string a0_2] 26 (0, 0)) (by (with_reducible repeat (first | refine blk_drewN ?_ _ | refine blk_drew ?_ | refine blk_alloc ?_ _)); exact BK101.out) hb); have n1_ := Aside0.mk (blk_below (g := gb105) (o := .cells #[.bool t102, .bool t103] 102 (0, 0)) (by (with_reducible repeat (first | refine blk_drewN ?_ _ | refine blk_drew ?_ | refine blk_alloc ?_ _)); exact BK105.out) hb); have n2_ := Aside0.mk (below_step (by repeat (first | (with_reducible first | exact HB.out | apply below_alloc | apply pw_below_drewN | apply below_drew1 | refine below_set ?_ GE101.out | refine below_set ?_ GE105.out) | exact HB.out)) hb); clear BK101; clear BK105; clear HB; have BK101 := n0_; have BK105 := n1_; have HB := n2_; clear n0_ n1_ n2_; (try clear hb); (try clear hb2); (try clear hk); (try clear hi)))
                      go_ret
                      exact ⟨by first | rfl | (simp [errW_none, errW_some] <;> rfl) | (simp [*, errW_none, errW_some] <;> rfl), by repeat (first | (with_reducible first | exact HB.out | apply below_alloc | apply pw_below_drewN | apply below_drew1 | refine below_set ?_ GE101.out | refine below_set ?_ GE105.out) | exact HB.out)⟩
                    · replace c39 := Bool.eq_false_iff.mpr c39
                      subst c39
                      have H1 : (some 3) = some r := by rw [if_neg (show ¬ (false = true) by decide)] at H; exact H
                      clear H
                      have H := H1
                      clear H1
                      obtain rfl := Option.some.inj H
                      have hnb43 := NB101_105.out
                      have hnc43 := NB105_101.out
                      have hcz44_0 : wc.cell? ⟨gb101, 0, none⟩ = some (.int .i64 a0_0) := (blk_cell BK101.out 0).trans rfl
                      have hcz44_1 : wc.cell? ⟨gb101, 1, none⟩ = some (.int .i64 a0_1) := (blk_cell BK101.out 1).trans rfl
                      have hcz44_2 : wc.cell? ⟨gb101, 2, none⟩ = some (.string a0_2) := (blk_cell BK101.out 2).trans rfl
                      have hfz44_0 := blk_frozen BK101.out 0
                      have hfz44_1 := blk_frozen BK101.out 1
                      have hfz44_2 := blk_frozen BK101.out 2
                      go_wp2_with (first | ((with_reducible refine gate_callee (f := 55) rfl ?_); refine goesL_ (some 44) rfl rfl Tryd.func55 (by kernel_rfl) rfl #[.string a0_2] rfl (by (try simp only [List.map_toArray, List.map_cons, List.map_nil]); first | done | rfl | (simp only [List.length_drop, List.length_take]; rfl)) ?_; (with_reducible refine (points_Valid.calls a0_2 false _ ?side1 A38.out).mono ?_); (case side1 => first | (with_reducible exact HG.out) | exact Glob.below HG.out (by repeat (first | (with_reducible first | exact HB.out | apply below_alloc | apply pw_below_drewN | apply below_drew1 | refine below_set ?_ GE101.out | refine below_set ?_ GE105.out) | exact HB.out)) | exact Glob.drawn HG.out (by repeat (first | exact Drawn0.refl _ | apply Drawn0.step))); rintro e w45 ⟨rfl, hb⟩; refine ⟨_, rfl, ?_⟩; have n0_ := Aside0.mk (blk_below (g := gb101) (o := .cells #[.int .i64 a0_0, .int .i64 a0_1, .string a0_2] 26 (0, 0)) (by (with_reducible repeat (first | refine blk_drewN ?_ _ | refine blk_drew ?_ | refine blk_alloc ?_ _)); exact BK101.out) hb); have n1_ := Aside0.mk (blk_below (g := gb105) (o := .cells #[.bool t102, .bool t103] 102 (0, 0)) (by (with_reducible repeat (first | refine blk_drewN ?_ _ | refine blk_drew ?_ | refine blk_alloc ?_ _)); exact BK105.out) hb); have n2_ := Aside0.mk (below_step (by repeat (first | (with_reducible first | exact HB.out | apply below_alloc | apply pw_below_drewN | apply below_drew1 | refine below_set ?_ GE101.out | refine below_set ?_ GE105.out) | exact HB.out)) hb); clear BK101; clear BK105; clear HB; have BK101 := n0_; have BK105 := n1_; have HB := n2_; clear n0_ n1_ n2_; (try clear hb); (try clear hb2); (try clear hk); (try clear hi)))
                      go_ret
                      exact ⟨by first | rfl | (simp [errW_none, errW_some] <;> rfl) | (simp [*, errW_none, errW_some] <;> rfl), by repeat (first | (with_reducible first | exact HB.out | apply below_alloc | apply pw_below_drewN | apply below_drew1 | refine below_set ?_ GE101.out | refine below_set ?_ GE105.out) | exact HB.out)⟩
  · replace c3 := Bool.eq_false_iff.mpr c3
    subst c3
    have H1 : (some 1) = some r := by rw [if_neg (show ¬ (false = true) by decide)] at H; exact H
    clear H
    have H := H1
    clear H1
    obtain rfl := Option.some.inj H
    go_enter Tryd.func82, Tryd.ntmps82
    go_wp2_with (first | ((with_reducible refine gate_dst (N := 1) rfl ?_); refine box_event ?hg (N := 1) ?hd (cs := #[.int .i64 a0_0, .int .i64 a0_1, .string a0_2]) (t := 26) ?hr ?_; (case hd => rfl); (case hg => rfl); (case hr => first | (go_simp; done) | (go_simp; rfl)); intro gb101 hg w46 hbox hb; have n0_ := Aside0.mk (below_step (by repeat (first | (with_reducible first | exact HB.out | apply below_alloc | apply pw_below_drewN | apply below_drew1) | exact HB.out)) hb); have n1_ := Aside0.mk (hbox); have n2_ := Aside0.mk ((by rw [hg]; exact (below_size (by repeat (first | (with_reducible first | exact HB.out | apply below_alloc | apply pw_below_drewN | apply below_drew1) | exact HB.out))) : w.heap.size ≤ gb101)); have n3_ := Aside0.mk ((by rw [hg]; exact (below_size (by repeat (first | (with_reducible first | exact HB.out | apply below_alloc | apply pw_below_drewN | apply below_drew1) | exact HB.out))) : w.heap.size ≤ gb101)); clear HB; have HB := n0_; have BK101 := n1_; have GW101 := n2_; have GE101 := n3_; clear n0_ n1_ n2_ n3_; clear hb hbox hg; have hcz47_0 : w46.cell? ⟨gb101, 0, none⟩ = some (.int .i64 a0_0) := (blk_cell BK101.out 0).trans rfl; have hcz47_1 : w46.cell? ⟨gb101, 1, none⟩ = some (.int .i64 a0_1) := (blk_cell BK101.out 1).trans rfl; have hcz47_2 : w46.cell? ⟨gb101, 2, none⟩ = some (.string a0_2) := (blk_cell BK101.out 2).trans rfl; have hfz47_0 := blk_frozen BK101.out 0; have hfz47_1 := blk_frozen BK101.out 1; have hfz47_2 := blk_frozen BK101.out 2) | ((with_reducible refine gate_callee (f := 83) rfl ?_); refine goesL_ (some 7) rfl rfl Tryd.func83 (by kernel_rfl) rfl #[.agg #[.int .i64 a0_0, .int .i64 a0_1, .string a0_2]] rfl (by (try simp only [List.map_toArray, List.map_cons, List.map_nil]); first | done | rfl | (simp only [List.length_drop, List.length_take]; rfl)) ?_; (with_reducible refine (span_of.calls a0_0 a0_1 a0_2 t102 t103 false _ ?side1 A2.out).mono ?_); (case side1 => first | (with_reducible exact HG.out) | exact Glob.below HG.out (by repeat (first | (with_reducible first | exact HB.out | apply below_alloc | apply pw_below_drewN | apply below_drew1 | refine below_set ?_ GE101.out) | exact HB.out)) | exact Glob.drawn HG.out (by repeat (first | exact Drawn0.refl _ | apply Drawn0.step))); rintro e w48 ⟨rfl, hb⟩; refine ⟨_, rfl, ?_⟩; have n0_ := Aside0.mk (blk_below (g := gb101) (o := .cells #[.int .i64 a0_0, .int .i64 a0_1, .string a0_2] 26 (0, 0)) (by (with_reducible repeat (first | refine blk_drewN ?_ _ | refine blk_drew ?_ | refine blk_alloc ?_ _)); exact BK101.out) hb); have n1_ := Aside0.mk (below_step (by repeat (first | (with_reducible first | exact HB.out | apply below_alloc | apply pw_below_drewN | apply below_drew1 | refine below_set ?_ GE101.out) | exact HB.out)) hb); clear BK101; clear HB; have BK101 := n0_; have HB := n1_; clear n0_ n1_; (try clear hb); (try clear hb2); (try clear hk); (try clear hi)) | ((with_reducible refine gate_dst (N := 3) rfl ?_); refine box_event ?hg (N := 3) ?hd (cs := #[.bool false, .bool false]) (t := 102) ?hr ?_; (case hd => rfl); (case hg => rfl); (case hr => first | (go_simp; done) | (go_simp; rfl)); intro gb105 hg w49 hbox hb; have n0_ := Aside0.mk (blk_below (g := gb101) (o := .cells #[.int .i64 a0_0, .int .i64 a0_1, .string a0_2] 26 (0, 0)) (by (with_reducible repeat (first | refine blk_drewN ?_ _ | refine blk_drew ?_ | refine blk_alloc ?_ _)); exact BK101.out) hb); have n1_ := Aside0.mk (below_step (by repeat (first | (with_reducible first | exact HB.out | apply below_alloc | apply pw_below_drewN | apply below_drew1 | refine below_set ?_ GE101.out) | exact HB.out)) hb); have n2_ := Aside0.mk (hbox); have n3_ := Aside0.mk ((by rw [hg]; exact (below_size (by repeat (first | (with_reducible first | exact HB.out | apply below_alloc | apply pw_below_drewN | apply below_drew1 | refine below_set ?_ GE101.out) | exact HB.out))) : w.heap.size ≤ gb105)); have n4_ := Aside0.mk ((by rw [hg]; exact (below_size (by repeat (first | (with_reducible first | exact HB.out | apply below_alloc | apply pw_below_drewN | apply below_drew1 | refine below_set ?_ GE101.out) | exact HB.out))) : w.heap.size ≤ gb105)); have n5_ := Aside0.mk ((by rw [hg]; exact Nat.ne_of_lt (blk_lt (g := gb101) (o := .cells #[.int .i64 a0_0, .int .i64 a0_1, .string a0_2] 26 (0, 0)) (by (with_reducible repeat (first | refine blk_drewN ?_ _ | refine blk_drew ?_ | refine blk_alloc ?_ _)); exact BK101.out)) : gb101 ≠ gb105)); have n6_ := Aside0.mk ((by rw [hg]; exact Nat.ne_of_gt (blk_lt (g := gb101) (o := .cells #[.int .i64 a0_0, .int .i64 a0_1, .string a0_2] 26 (0, 0)) (by (with_reducible repeat (first | refine blk_drewN ?_ _ | refine blk_drew ?_ | refine blk_alloc ?_ _)); exact BK101.out)) : gb105 ≠ gb101)); clear BK101; clear HB; have BK101 := n0_; have HB := n1_; have BK105 := n2_; have GW105 := n3_; have GE105 := n4_; have NB101_105 := n5_; have NB105_101 := n6_; clear n0_ n1_ n2_ n3_ n4_ n5_ n6_; clear hb hbox hg; have hnb50 := NB105_101.out; have hnc50 := NB101_105.out; have hcz51_0 : w49.cell? ⟨gb105, 0, none⟩ = some (.bool false) := (blk_cell BK105.out 0).trans rfl; have hcz51_1 : w49.cell? ⟨gb105, 1, none⟩ = some (.bool false) := (blk_cell BK105.out 1).trans rfl; have hfz51_0 := blk_frozen BK105.out 0; have hfz51_1 := blk_frozen BK105.out 1))
    go_ret
    exact ⟨by first | rfl | (simp [errW_none, errW_some] <;> rfl) | (simp [*, errW_none, errW_some] <;> rfl), by repeat (first | (with_reducible first | exact HB.out | apply below_alloc | apply pw_below_drewN | apply below_drew1 | refine below_set ?_ GE101.out | refine below_set ?_ GE105.out) | exact HB.out)⟩
end Go.Proofs.YtkefbljogjcodaaDoor.F
end
section
namespace Go.Proofs.YtkefbljogjcodaaDoor.F
open Go.RowKit Go.Proofs.YtkefbljogjcodaaDoorW.PrintWords Go.Proofs.YtkefbljogjcodaaDoorW.PrintLast Go.Proofs.YtkefbljogjcodaaDoorW.PrintMore
attribute [local go_sem] max2_int min2_int max_two min_two max_three min_three max_four min_four cell_setCell_isSome
set_option linter.unusedVariables false
set_option linter.unusedSimpArgs false
def op_May.l0 : Nat → List (S26) → List (S26) → Int → Int → Option (Int)
  | 0, _, _, _, _ => none
  | k + 1, x0, x6, x7, x8 => if x8 < x7 then (if 0 ≤ x8 then (if x8 < (x6.length : Int) then ((span_May.f k ((rd_T26 x6 x8).f0) ((rd_T26 x6 x8).f1) ((rd_T26 x6 x8).f2)).bind fun t103 => (if t103 = 0 then (op_May.l0 k x0 x6 x7 (wrap64 (x8 + 1))) else (some t103))) else (none)) else (none)) else ((op_In.f k x0).bind fun t104 => (if t104 > 1048576 then (some 4) else (some 0)))
def op_May.f (k : Nat) (l0 : List (S26)) : Option (Int) := op_May.l0 k l0 l0 (l0.length : Int) 0
set_option maxHeartbeats 8000000 in
set_option maxRecDepth 100000 in
theorem op_May.calls (k : Nat) (A0 : Option Addr) (c0 : Nat) (l0 : List (S26)) (r : Int) (w : World) (hG : Glob w) (hr0 : Kd.C k26 w A0 l0.length l0) (hc0 : l0.length ≤ c0) (h : op_May.f k l0 = some r) :
    Calls Tryd.prog 47 #[.slice A0 l0.length c0] w fun e w' => e = .returned (.int .i64 r) ∧ Below w.heap.size w w' := by
  have hu26 := Tryd.underlying26
  have HG := Aside0.mk hG
  clear hG
  have HR0 := Aside0.mk hr0
  have HC0 := Aside0.mk hc0
  clear hr0 hc0
  have HB := Aside0.mk (Below.refl w.heap.size w)
  have H : (op_May.l0 k l0 l0 (l0.length : Int) 0) = some r := h
  clear h
  have H' := Aside0.mk H
  clear H
  go_enter Tryd.func47, Tryd.ntmps47
  go_wp2
  go_loopg [8] k (fun kq v8 w' => ∃ (x8_1 : Int), v8 = .int .i64 x8_1 ∧ Aside0 (op_May.l0 kq l0 l0 (l0.length : Int) x8_1 = some r) ∧ Aside0 (kq ≤ k) ∧ Aside0 (Below w.heap.size w w'))
  case atStart => exact ⟨(0), (by first | rfl | (simp; done) | (simp [*]; done)), H', ⟨Nat.le_refl _⟩, ⟨by repeat (first | (with_reducible first | exact HB.out | apply below_alloc | apply pw_below_drewN | apply below_drew1) | exact HB.out)⟩⟩
  case round =>
    clear H'
    obtain ⟨x8_1, rfl, HA, HK1, HB⟩ := hrel
    cases gk with
    | zero => exact absurd HA.out (by simp [op_May.l0])
    | succ k1 =>
      have H := HA.out
      clear HA
      simp only [op_May.l0] at H
      by_cases c2 : x8_1 < (l0.length : Int)
      · rw [if_pos c2] at H
        have c2b0 : decide (x8_1 < (l0.length : Int)) = true := decide_eq_true c2
        clear c2
        by_cases c3 : 0 ≤ x8_1
        · rw [if_pos c3] at H
          have c3b0 : decide (0 ≤ x8_1) = true := decide_eq_true c3
          clear c3
          by_cases c4 : x8_1 < (l0.length : Int)
          · rw [if_pos c4] at H
            have c4b0 : decide (x8_1 < (l0.length : Int)) = true := decide_eq_true c4
            clear c4
            replace H := Option.bind_eq_some_iff.mp H
            obtain ⟨t103, A50, H⟩ := H
            replace H : (if t103 = 0 then (op_May.l0 k1 l0 l0 (l0.length : Int) (wrap64 (x8_1 + 1))) else (some t103)) = some r := H
            have A5 := Aside0.mk A50
            clear A50
            by_cases c6 : t103 = 0
            · rw [if_pos c6] at H
              have c6b0 : (t103 == 0) = true := beq_iff_eq.mpr c6
              have c6b1 : (t103 != 0) = false := bne_eq_false_iff_eq.mpr c6
              clear c6
              have H' := Aside0.mk H
              clear H
              have p101 : 0 ≤ (x8_1 : Int) := of_decide_eq_true (by first | (with_reducible assumption) | assumption)
              have q101 : x8_1 < (l0.length : Int) := of_decide_eq_true (by first | (with_reducible assumption) | assumption)
              obtain ⟨ad101, e101, hx101_0, hx101_1, hx101_2⟩ := at_T26 HR0.out x8_1 p101 q101
              cases e101
              replace hx101_0 := (HB.out.cell (World.block_lt_of_cell? w _ hx101_0)).trans hx101_0
              replace hx101_1 := (HB.out.cell (World.block_lt_of_cell? w _ hx101_1)).trans hx101_1
              replace hx101_2 := (HB.out.cell (World.block_lt_of_cell? w _ hx101_2)).trans hx101_2
              replace p101 := eq_true p101
              replace q101 := eq_true q101
              go_wp2_with (first | ((with_reducible refine gate_dst (N := 4) rfl ?_); refine box_event ?hg (N := 4) ?hd (cs := #[.int .i64 0, .int .i64 0, .string (⟨#[]⟩ : ByteArray)]) (t := 26) ?hr ?_; (case hd => rfl); (case hg => rfl); (case hr => first | (go_simp; done) | (go_simp; rfl)); intro gb102 hg w7 hbox hb; have n0_ := Aside0.mk (below_step (by repeat (first | (with_reducible first | exact HB.out | apply below_alloc | apply pw_below_drewN | apply below_drew1) | exact HB.out)) hb); have n1_ := Aside0.mk (hbox); have n2_ := Aside0.mk ((by rw [hg]; exact (below_size (by repeat (first | (with_reducible first | exact HB.out | apply below_alloc | apply pw_below_drewN | apply below_drew1) | exact HB.out))) : w.heap.size ≤ gb102)); have n3_ := Aside0.mk ((by rw [hg]; exact (below_size (by repeat (first | (with_reducible first | exact HB.out | apply below_alloc | apply pw_below_drewN | apply below_drew1) | exact HB.out))) : w.heap.size ≤ gb102)); clear HB; have HB := n0_; have BK102 := n1_; have GW102 := n2_; have GE102 := n3_; clear n0_ n1_ n2_ n3_; clear hb hbox hg; have hcz8_0 : w7.cell? ⟨gb102, 0, none⟩ = some (.int .i64 0) := (blk_cell BK102.out 0).trans rfl; have hcz8_1 : w7.cell? ⟨gb102, 1, none⟩ = some (.int .i64 0) := (blk_cell BK102.out 1).trans rfl; have hcz8_2 : w7.cell? ⟨gb102, 2, none⟩ = some (.string (⟨#[]⟩ : ByteArray)) := (blk_cell BK102.out 2).trans rfl; have hfz8_0 := blk_frozen BK102.out 0; have hfz8_1 := blk_frozen BK102.out 1; have hfz8_2 := blk_frozen BK102.out 2) | ((with_reducible refine gate_callee (f := 82) rfl ?_); refine goesL_ (some 13) rfl rfl Tryd.func82 (by kernel_rfl) rfl #[.agg #[.int .i64 ((rd_T26 l0 x8_1).f0), .int .i64 ((rd_T26 l0 x8_1).f1), .string ((rd_T26 l0 x8_1).f2)]] rfl (by (try simp only [List.map_toArray, List.map_cons, List.map_nil]); first | done | rfl | (simp only [List.length_drop, List.length_take]; rfl)) ?_; (with_reducible refine (span_May.calls k1 ((rd_T26 l0 x8_1).f0) ((rd_T26 l0 x8_1).f1) ((rd_T26 l0 x8_1).f2) t103 _ ?side1 A5.out).mono ?_); (case side1 => first | (with_reducible exact HG.out) | exact Glob.below HG.out (by repeat (first | (with_reducible first | exact HB.out | apply below_alloc | apply pw_below_drewN | apply below_drew1 | refine below_set ?_ GE102.out) | exact HB.out)) | exact Glob.drawn HG.out (by repeat (first | exact Drawn0.refl _ | apply Drawn0.step))); rintro e w9 ⟨rfl, hb⟩; refine ⟨_, rfl, ?_⟩; have n0_ := Aside0.mk (blk_below (g := gb102) (o := .cells #[.int .i64 ((rd_T26 l0 x8_1).f0), .int .i64 ((rd_T26 l0 x8_1).f1), .string ((rd_T26 l0 x8_1).f2)] 26 (0, 0)) (by (with_reducible repeat (first | refine blk_drewN ?_ _ | refine blk_drew ?_ | refine blk_alloc ?_ _)); refine blk_put (cs := #[.int .i64 ((rd_T26 l0 x8_1).f0), .int .i64 ((rd_T26 l0 x8_1).f1), .string (⟨#[]⟩ : ByteArray)]) ?_ 2 _ rfl; (with_reducible repeat (first | refine blk_drewN ?_ _ | refine blk_drew ?_ | refine blk_alloc ?_ _)); refine blk_put (cs := #[.int .i64 ((rd_T26 l0 x8_1).f0), .int .i64 0, .string (⟨#[]⟩ : ByteArray)]) ?_ 1 _ rfl; (with_reducible repeat (first | refine blk_drewN ?_ _ | refine blk_drew ?_ | refine blk_alloc ?_ _)); refine blk_put (cs := #[.int .i64 0, .int .i64 0, .string (⟨#[]⟩ : ByteArray)]) ?_ 0 _ rfl; (with_reducible repeat (first | refine blk_drewN ?_ _ | refine blk_drew ?_ | refine blk_alloc ?_ _)); exact BK102.out) hb); have n1_ := Aside0.mk (below_step (by repeat (first | (with_reducible first | exact HB.out | apply below_alloc | apply pw_below_drewN | apply below_drew1 | refine below_set ?_ GE102.out) | exact HB.out)) hb); clear BK102; clear HB; have BK102 := n0_; have HB := n1_; clear n0_ n1_; (try clear hb); (try clear hb2); (try clear hk); (try clear hi)))
              go_roundg k1
              case measure => have := HK1.out; omega
              case rel => exact ⟨(wrap64 (x8_1 + 1)), (by first | rfl | (simp; done) | (simp [*]; done)), H', ⟨by have := HK1.out; omega⟩, ⟨by repeat (first | (with_reducible first | exact HB.out | apply below_alloc | apply pw_below_drewN | apply below_drew1 | refine below_set ?_ GE102.out) | exact HB.out)⟩⟩
            · rw [if_neg c6] at H
              have c6b0 : (t103 == 0) = false := beq_eq_false_iff_ne.mpr c6
              have c6b1 : (t103 != 0) = true := bne_iff_ne.mpr c6
              obtain rfl := Option.some.inj H
              have p101 : 0 ≤ (x8_1 : Int) := of_decide_eq_true (by first | (with_reducible assumption) | assumption)
              have q101 : x8_1 < (l0.length : Int) := of_decide_eq_true (by first | (with_reducible assumption) | assumption)
              obtain ⟨ad101, e101, hx101_0, hx101_1, hx101_2⟩ := at_T26 HR0.out x8_1 p101 q101
              cases e101
              replace hx101_0 := (HB.out.cell (World.block_lt_of_cell? w _ hx101_0)).trans hx101_0
              replace hx101_1 := (HB.out.cell (World.block_lt_of_cell? w _ hx101_1)).trans hx101_1
              replace hx101_2 := (HB.out.cell (World.block_lt_of_cell? w _ hx101_2)).trans hx101_2
              replace p101 := eq_true p101
              replace q101 := eq_true q101
              go_wp2_with (first | ((with_reducible refine gate_dst (N := 4) rfl ?_); refine box_event ?hg (N := 4) ?hd (cs := #[.int .i64 0, .int .i64 0, .string (⟨#[]⟩ : ByteArray)]) (t := 26) ?hr ?_; (case hd => rfl); (case hg => rfl); (case hr => first | (go_simp; done) | (go_simp; rfl)); intro gb102 hg w10 hbox hb; have n0_ := Aside0.mk (below_step (by repeat (first | (with_reducible first | exact HB.out | apply below_alloc | apply pw_below_drewN | apply below_drew1) | exact HB.out)) hb); have n1_ := Aside0.mk (hbox); have n2_ := Aside0.mk ((by rw [hg]; exact (below_size (by repeat (first | (with_reducible first | exact HB.out | apply below_alloc | apply pw_below_drewN | apply below_drew1) | exact HB.out))) : w.heap.size ≤ gb102)); have n3_ := Aside0.mk ((by rw [hg]; exact (below_size (by repeat (first | (with_reducible first | exact HB.out | apply below_alloc | apply pw_below_drewN | apply below_drew1) | exact HB.out))) : w.heap.size ≤ gb102)); clear HB; have HB := n0_; have BK102 := n1_; have GW102 := n2_; have GE102 := n3_; clear n0_ n1_ n2_ n3_; clear hb hbox hg; have hcz11_0 : w10.cell? ⟨gb102, 0, none⟩ = some (.int .i64 0) := (blk_cell BK102.out 0).trans rfl; have hcz11_1 : w10.cell? ⟨gb102, 1, none⟩ = some (.int .i64 0) := (blk_cell BK102.out 1).trans rfl; have hcz11_2 : w10.cell? ⟨gb102, 2, none⟩ = some (.string (⟨#[]⟩ : ByteArray)) := (blk_cell BK102.out 2).trans rfl; have hfz11_0 := blk_frozen BK102.out 0; have hfz11_1 := blk_frozen BK102.out 1; have hfz11_2 := blk_frozen BK102.out 2) | ((with_reducible refine gate_callee (f := 82) rfl ?_); refine goesL_ (some 13) rfl rfl Tryd.func82 (by kernel_rfl) rfl #[.agg #[.int .i64 ((rd_T26 l0 x8_1).f0), .int .i64 ((rd_T26 l0 x8_1).f1), .string ((rd_T26 l0 x8_1).f2)]] rfl (by (try simp only [List.map_toArray, List.map_cons, List.map_nil]); first | done | rfl | (simp only [List.length_drop, List.length_take]; rfl)) ?_; (with_reducible refine (span_May.calls k1 ((rd_T26 l0 x8_1).f0) ((rd_T26 l0 x8_1).f1) ((rd_T26 l0 x8_1).f2) t103 _ ?side1 A5.out).mono ?_); (case side1 => first | (with_reducible exact HG.out) | exact Glob.below HG.out (by repeat (first | (with_reducible first | exact HB.out | apply below_alloc | apply pw_below_drewN | apply below_drew1 | refine below_set ?_ GE102.out) | exact HB.out)) | exact Glob.drawn HG.out (by repeat (first | exact Drawn0.refl _ | apply Drawn0.step))); rintro e w12 ⟨rfl, hb⟩; refine ⟨_, rfl, ?_⟩; have n0_ := Aside0.mk (blk_below (g := gb102) (o := .cells #[.int .i64 ((rd_T26 l0 x8_1).f0), .int .i64 ((rd_T26 l0 x8_1).f1), .string ((rd_T26 l0 x8_1).f2)] 26 (0, 0)) (by (with_reducible repeat (first | refine blk_drewN ?_ _ | refine blk_drew ?_ | refine blk_alloc ?_ _)); refine blk_put (cs := #[.int .i64 ((rd_T26 l0 x8_1).f0), .int .i64 ((rd_T26 l0 x8_1).f1), .string (⟨#[]⟩ : ByteArray)]) ?_ 2 _ rfl; (with_reducible repeat (first | refine blk_drewN ?_ _ | refine blk_drew ?_ | refine blk_alloc ?_ _)); refine blk_put (cs := #[.int .i64 ((rd_T26 l0 x8_1).f0), .int .i64 0, .string (⟨#[]⟩ : ByteArray)]) ?_ 1 _ rfl; (with_reducible repeat (first | refine blk_drewN ?_ _ | refine blk_drew ?_ | refine blk_alloc ?_ _)); refine blk_put (cs := #[.int .i64 0, .int .i64 0, .string (⟨#[]⟩ : ByteArray)]) ?_ 0 _ rfl; (with_reducible repeat (first | refine blk_drewN ?_ _ | refine blk_drew ?_ | refine blk_alloc ?_ _)); exact BK102.out) hb); have n1_ := Aside0.mk (below_step (by repeat (first | (with_reducible first | exact HB.out | apply below_alloc | apply pw_below_drewN | apply below_drew1 | refine below_set ?_ GE102.out) | exact HB.out)) hb); clear BK102; clear HB; have BK102 := n0_; have HB := n1_; clear n0_ n1_; (try clear hb); (try clear hb2); (try clear hk); (try clear hi)))
              go_ret
              exact ⟨by first | rfl | (simp [errW_none, errW_some] <;> rfl) | (simp [*, errW_none, errW_some] <;> rfl), by repeat (first | (with_reducible first | exact HB.out | apply below_alloc | apply pw_below_drewN | apply below_drew1 | refine below_set ?_ GE102.out) | exact HB.out)⟩
          · rw [if_neg c4] at H
            exact absurd H (by simp)
        · rw [if_neg c3] at H
          exact absurd H (by simp)
      · rw [if_neg c2] at H
        have c2b0 : decide (x8_1 < (l0.length : Int)) = false := decide_eq_false c2
        clear c2
        replace H := Option.bind_eq_some_iff.mp H
        obtain ⟨t104, A130, H⟩ := H
        replace H : (if t104 > 1048576 then (some 4) else (some 0)) = some r := H
        have A13 := Aside0.mk A130
        clear A130
        by_cases c14 : t104 > 1048576
        · rw [if_pos c14] at H
          have c14b0 : decide (1048576 < t104) = true := decide_eq_true c14
          clear c14
          obtain rfl := Option.some.inj H
          go_wp2_with (first | ((with_reducible refine gate_callee (f := 45) rfl ?_); refine goesL_ (some 19) rfl rfl Tryd.func45 (by kernel_rfl) rfl #[.slice A0 l0.length c0] rfl (by (try simp only [List.map_toArray, List.map_cons, List.map_nil]); first | done | rfl | (simp only [List.length_drop, List.length_take]; rfl)) ?_; (with_reducible refine (op_In.calls k1 _ _ l0 t104 _ ?side1 ?side2 ?side3 A13.out).mono ?_); (case side1 => first | (with_reducible exact HG.out) | exact Glob.below HG.out (by repeat (first | (with_reducible first | exact HB.out | apply below_alloc | apply pw_below_drewN | apply below_drew1) | exact HB.out)) | exact Glob.drawn HG.out (by repeat (first | exact Drawn0.refl _ | apply Drawn0.step))); (case side2 => repeat (first | exact (Kd.C_below HR0.out HB.out) | (with_reducible refine Kd.C_alloc ?_ _) | (with_reducible refine Kd.C_drewN ?_ _) | (with_reducible refine Kd.C_drew ?_))); (case side3 => exact HC0.out); rintro e w15 ⟨rfl, hb⟩; refine ⟨_, rfl, ?_⟩; have n0_ := Aside0.mk (below_step (by repeat (first | (with_reducible first | exact HB.out | apply below_alloc | apply pw_below_drewN | apply below_drew1) | exact HB.out)) hb); clear HB; have HB := n0_; clear n0_; (try clear hb); (try clear hb2); (try clear hk); (try clear hi)))
          go_ret
          exact ⟨by first | rfl | (simp [errW_none, errW_some] <;> rfl) | (simp [*, errW_none, errW_some] <;> rfl), by repeat (first | (with_reducible first | exact HB.out | apply below_alloc | apply pw_below_drewN | apply below_drew1) | exact HB.out)⟩
        · rw [if_neg c14] at H
          have c14b0 : decide (1048576 < t104) = false := decide_eq_false c14
          clear c14
          obtain rfl := Option.some.inj H
          go_wp2_with (first | ((with_reducible refine gate_callee (f := 45) rfl ?_); refine goesL_ (some 19) rfl rfl Tryd.func45 (by kernel_rfl) rfl #[.slice A0 l0.length c0] rfl (by (try simp only [List.map_toArray, List.map_cons, List.map_nil]); first | done | rfl | (simp only [List.length_drop, List.length_take]; rfl)) ?_; (with_reducible refine (op_In.calls k1 _ _ l0 t104 _ ?side1 ?side2 ?side3 A13.out).mono ?_); (case side1 => first | (with_reducible exact HG.out) | exact Glob.below HG.out (by repeat (first | (with_reducible first | exact HB.out | apply below_alloc | apply pw_below_drewN | apply below_drew1) | exact HB.out)) | exact Glob.drawn HG.out (by repeat (first | exact Drawn0.refl _ | apply Drawn0.step))); (case side2 => repeat (first | exact (Kd.C_below HR0.out HB.out) | (with_reducible refine Kd.C_alloc ?_ _) | (with_reducible refine Kd.C_drewN ?_ _) | (with_reducible refine Kd.C_drew ?_))); (case side3 => exact HC0.out); rintro e w16 ⟨rfl, hb⟩; refine ⟨_, rfl, ?_⟩; have n0_ := Aside0.mk (below_step (by repeat (first | (with_reducible first | exact HB.out | apply below_alloc | apply pw_below_drewN | apply below_drew1) | exact HB.out)) hb); clear HB; have HB := n0_; clear n0_; (try clear hb); (try clear hb2); (try clear hk); (try clear hi)))
          go_ret
          exact ⟨by first | rfl | (simp [errW_none, errW_some] <;> rfl) | (simp [*, errW_none, errW_some] <;> rfl), by repeat (first | (with_reducible first | exact HB.out | apply below_alloc | apply pw_below_drewN | apply below_drew1) | exact HB.out)⟩
end Go.Proofs.YtkefbljogjcodaaDoor.F
end
section
namespace Go.Proofs.YtkefbljogjcodaaDoor.F
open Go.RowKit Go.Proofs.YtkefbljogjcodaaDoorW.PrintWords Go.Proofs.YtkefbljogjcodaaDoorW.PrintLast Go.Proofs.YtkefbljogjcodaaDoorW.PrintMore
set_option linter.unusedVariables false
set_option linter.unusedSimpArgs false
def points_Count.f (a0 : ByteArray) : Option Int := if a0.size ≤ 9223372036854775807 then some (if Lib.validD a0.data.toList = true then (Lib.runeCount a0 : Int) else -1) else none
theorem valid_some {a0 : ByteArray} {b : Bool} (hs : a0.size ≤ 9223372036854775807) (h : Lib.validD a0.data.toList = b) : points_Valid.f a0 = some b := by
  unfold points_Valid.f utf8_ValidString.f
  rw [if_pos (by omega), h]
  rfl
set_option maxHeartbeats 4000000 in
theorem points_Count.calls (a0 : ByteArray) (r : Int) (w : World) (hG : Glob w) (h : points_Count.f a0 = some r) :
    Calls Tryd.prog 17 #[.string a0] w fun e w' => e = .returned (.int .i64 r) ∧ Below w.heap.size w w' := by
  have HG := Aside0.mk hG
  clear hG
  unfold points_Count.f at h
  split at h
  · next hs =>
    obtain rfl := Option.some.inj h
    clear h
    have HS := Aside0.mk hs
    cases hv : Lib.validD a0.data.toList with
    | false =>
      have HV := Aside0.mk (valid_some hs hv)
      clear hv hs
      go_enter Tryd.func17, Tryd.ntmps17
      go_wp2_with (go_at_call 55; (with_reducible refine (points_Valid.calls _ _ _ HG.out HV.out).mono ?_); rintro e w' ⟨rfl, hb⟩; have HB := Aside0.mk hb; clear hb)
      go_ret
      exact ⟨rfl, HB.out⟩
    | true =>
      have HV := Aside0.mk (valid_some hs hv)
      clear hv hs
      go_enter Tryd.func17, Tryd.ntmps17
      go_wp2_with (go_at_call 55; (with_reducible refine (points_Valid.calls _ _ _ HG.out HV.out).mono ?_); rintro e w' ⟨rfl, hb⟩; have HB := Aside0.mk hb; clear hb)
      obtain ⟨w1, rfl⟩ : ∃ w1 : World, w1 = w' := ⟨_, rfl⟩
      go_loopw [3] (fun n w' => ∃ (pos b acc : Nat), w' = w1.iter a0 pos ∧ n = .int .i64 acc ∧ acc + Lib.runeCountFrom a0 b pos = Lib.runeCount a0 ∧ a0.size ≤ pos + b ∧ acc ≤ pos) (fun _ w' => a0.size - w'.iterPos w1.heap.size)
      case atStart => exact ⟨0, a0.size, 0, rfl, rfl, by simp [Lib.runeCount], by omega, Nat.le_refl _⟩
      case round =>
        obtain ⟨pos, b, acc, rfl, rfl, hc, hb, ha⟩ := hrel
        have hs := HS.out
        by_cases hp : pos < a0.size
        · have hnx : ∀ ty, (Instr.next (.pointer (some ⟨w1.heap.size, 0, none⟩)) true ty).run Tryd.prog (w1.iter a0 pos) = _ := fun ty => run_next_any w1 a0 pos ty hp
          have hwd := Lib.decode_width_pos a0 pos hp
          go_wp2
          go_roundw
          case rel =>
            cases b with
            | zero => omega
            | succ b =>
              refine ⟨pos + (Utf8.decode a0 pos).2, b, acc + 1, rfl, by go_num, ?_, by omega, by omega⟩
              rw [← hc]
              simp [Lib.runeCountFrom, hp]
              omega
          case measure =>
            simp
            omega
        · have hnx : ∀ ty, (Instr.next (.pointer (some ⟨w1.heap.size, 0, none⟩)) true ty).run Tryd.prog (w1.iter a0 pos) = _ := fun ty => run_next_end w1 a0 pos ty hp
          go_wp2
          go_ret
          rw [Lib.runeCountFrom_end a0 b pos hp, Nat.add_zero] at hc
          subst hc
          refine ⟨rfl, ?_⟩
          exact below_alloc HB.out _
  · cases h
end Go.Proofs.YtkefbljogjcodaaDoor.F
end
section
namespace Go.Proofs.YtkefbljogjcodaaDoor.F
open Go.RowKit Go.Proofs.YtkefbljogjcodaaDoorW.PrintWords Go.Proofs.YtkefbljogjcodaaDoorW.PrintLast Go.Proofs.YtkefbljogjcodaaDoorW.PrintMore
attribute [local go_sem] max2_int min2_int max_two min_two max_three min_three max_four min_four cell_setCell_isSome
set_option linter.unusedVariables false
set_option linter.unusedSimpArgs false
def span_Out.f (a0_0 : Int) (a0_1 : Int) (a0_2 : ByteArray) : Option (Int) := (span_of.f a0_0 a0_1 a0_2).bind fun bt102 => (if bt102.2.1 = true then (some a0_1) else (if a0_0 = 2 then ((points_Count.f a0_2).bind fun t106 => (some (mx t106 0))) else (some 0)))
set_option maxHeartbeats 8000000 in
set_option maxRecDepth 100000 in
theorem span_Out.calls (a0_0 : Int) (a0_1 : Int) (a0_2 : ByteArray) (r : Int) (w : World) (hG : Glob w) (h : span_Out.f a0_0 a0_1 a0_2 = some r) :
    Calls Tryd.prog 49 #[.agg #[.int .i64 a0_0, .int .i64 a0_1, .string a0_2]] w fun e w' => e = .returned (.int .i64 r) ∧ Below w.heap.size w w' := by
  have hu26 := Tryd.underlying26
  have hu102 := Tryd.underlying102
  have HG := Aside0.mk hG
  clear hG
  have HB := Aside0.mk (Below.refl w.heap.size w)
  have H : ((span_of.f a0_0 a0_1 a0_2).bind fun bt102 => (if bt102.2.1 = true then (some a0_1) else (if a0_0 = 2 then ((points_Count.f a0_2).bind fun t106 => (some (mx t106 0))) else (some 0)))) = some r := h
  clear h
  replace H := Option.bind_eq_some_iff.mp H
  obtain ⟨⟨t102, t103, t104⟩, A20, H⟩ := H
  replace H : (if t103 = true then (some a0_1) else (if a0_0 = 2 then ((points_Count.f a0_2).bind fun t106 => (some (mx t106 0))) else (some 0))) = some r := H
  have A2 := Aside0.mk A20
  clear A20
  by_cases c3 : t103 = true
  · subst c3
    have H1 : (some a0_1) = some r := by rw [if_pos rfl] at H; exact H
    clear H
    have H := H1
    clear H1
    obtain rfl := Option.some.inj H
    go_enter Tryd.func49, Tryd.ntmps49
    go_wp2_with (first | ((with_reducible refine gate_dst (N := 1) rfl ?_); refine box_event ?hg (N := 1) ?hd (cs := #[.int .i64 a0_0, .int .i64 a0_1, .string a0_2]) (t := 26) ?hr ?_; (case hd => rfl); (case hg => rfl); (case hr => first | (go_simp; done) | (go_simp; rfl)); intro gb101 hg w4 hbox hb; have n0_ := Aside0.mk (below_step (by repeat (first | (with_reducible first | exact HB.out | apply below_alloc | apply pw_below_drewN | apply below_drew1) | exact HB.out)) hb); have n1_ := Aside0.mk (hbox); have n2_ := Aside0.mk ((by rw [hg]; exact (below_size (by repeat (first | (with_reducible first | exact HB.out | apply below_alloc | apply pw_below_drewN | apply below_drew1) | exact HB.out))) : w.heap.size ≤ gb101)); have n3_ := Aside0.mk ((by rw [hg]; exact (below_size (by repeat (first | (with_reducible first | exact HB.out | apply below_alloc | apply pw_below_drewN | apply below_drew1) | exact HB.out))) : w.heap.size ≤ gb101)); clear HB; have HB := n0_; have BK101 := n1_; have GW101 := n2_; have GE101 := n3_; clear n0_ n1_ n2_ n3_; clear hb hbox hg; have hcz5_0 : w4.cell? ⟨gb101, 0, none⟩ = some (.int .i64 a0_0) := (blk_cell BK101.out 0).trans rfl; have hcz5_1 : w4.cell? ⟨gb101, 1, none⟩ = some (.int .i64 a0_1) := (blk_cell BK101.out 1).trans rfl; have hcz5_2 : w4.cell? ⟨gb101, 2, none⟩ = some (.string a0_2) := (blk_cell BK101.out 2).trans rfl; have hfz5_0 := blk_frozen BK101.out 0; have hfz5_1 := blk_frozen BK101.out 1; have hfz5_2 := blk_frozen BK101.out 2) | ((with_reducible refine gate_callee (f := 83) rfl ?_); refine goesL_ (some 7) rfl rfl Tryd.func83 (by kernel_rfl) rfl #[.agg #[.int .i64 a0_0, .int .i64 a0_1, .string a0_2]] rfl (by (try simp only [List.map_toArray, List.map_cons, List.map_nil]); first | done | rfl | (simp only [List.length_drop, List.length_take]; rfl)) ?_; (with_reducible refine (span_of.calls a0_0 a0_1 a0_2 t102 true t104 _ ?side1 A2.out).mono ?_); (case side1 => first | (with_reducible exact HG.out) | exact Glob.below HG.out (by repeat (first | (with_reducible first | exact HB.out | apply below_alloc | apply pw_below_drewN | apply below_drew1 | refine below_set ?_ GE101.out) | exact HB.out)) | exact Glob.drawn HG.out (by repeat (first | exact Drawn0.refl _ | apply Drawn0.step))); rintro e w6 ⟨rfl, hb⟩; refine ⟨_, rfl, ?_⟩; have n0_ := Aside0.mk (blk_below (g := gb101) (o := .cells #[.int .i64 a0_0, .int .i64 a0_1, .string a0_2] 26 (0, 0)) (by (with_reducible repeat (first | refine blk_drewN ?_ _ | refine blk_drew ?_ | refine blk_alloc ?_ _)); exact BK101.out) hb); have n1_ := Aside0.mk (below_step (by repeat (first | (with_reducible first | exact HB.out | apply below_alloc | apply pw_below_drewN | apply below_drew1 | refine below_set ?_ GE101.out) | exact HB.out)) hb); clear BK101; clear HB; have BK101 := n0_; have HB := n1_; clear n0_ n1_; (try clear hb); (try clear hb2); (try clear hk); (try clear hi)) | ((with_reducible refine gate_dst (N := 3) rfl ?_); refine box_event ?hg (N := 3) ?hd (cs := #[.bool false, .bool false]) (t := 102) ?hr ?_; (case hd => rfl); (case hg => rfl); (case hr => first | (go_simp; done) | (go_simp; rfl)); intro gb105 hg w7 hbox hb; have n0_ := Aside0.mk (blk_below (g := gb101) (o := .cells #[.int .i64 a0_0, .int .i64 a0_1, .string a0_2] 26 (0, 0)) (by (with_reducible repeat (first | refine blk_drewN ?_ _ | refine blk_drew ?_ | refine blk_alloc ?_ _)); exact BK101.out) hb); have n1_ := Aside0.mk (below_step (by repeat (first | (with_reducible first | exact HB.out | apply below_alloc | apply pw_below_drewN | apply below_drew1 | refine below_set ?_ GE101.out) | exact HB.out)) hb); have n2_ := Aside0.mk (hbox); have n3_ := Aside0.mk ((by rw [hg]; exact (below_size (by repeat (first | (with_reducible first | exact HB.out | apply below_alloc | apply pw_below_drewN | apply below_drew1 | refine below_set ?_ GE101.out) | exact HB.out))) : w.heap.size ≤ gb105)); have n4_ := Aside0.mk ((by rw [hg]; exact (below_size (by repeat (first | (with_reducible first | exact HB.out | apply below_alloc | apply pw_below_drewN | apply below_drew1 | refine below_set ?_ GE101.out) | exact HB.out))) : w.heap.size ≤ gb105)); have n5_ := Aside0.mk ((by rw [hg]; exact Nat.ne_of_lt (blk_lt (g := gb101) (o := .cells #[.int .i64 a0_0, .int .i64 a0_1, .string a0_2] 26 (0, 0)) (by (with_reducible repeat (first | refine blk_drewN ?_ _ | refine blk_drew ?_ | refine blk_alloc ?_ _)); exact BK101.out)) : gb101 ≠ gb105)); have n6_ := Aside0.mk ((by rw [hg]; exact Nat.ne_of_gt (blk_lt (g := gb101) (o := .cells #[.int .i64 a0_0, .int .i64 a0_1, .string a0_2] 26 (0, 0)) (by (with_reducible repeat (first | refine blk_drewN ?_ _ | refine blk_drew ?_ | refine blk_alloc ?_ _)); exact BK101.out)) : gb105 ≠ gb101)); clear BK101; clear HB; have BK101 := n0_; have HB := n1_; have BK105 := n2_; have GW105 := n3_; have GE105 := n4_; have NB101_105 := n5_; have NB105_101 := n6_; clear n0_ n1_ n2_ n3_ n4_ n5_ n6_; clear hb hbox hg; have hnb8 := NB105_101.out; have hnc8 := NB101_105.out; have hcz9_0 : w7.cell? ⟨gb105, 0, none⟩ = some (.bool false) := (blk_cell BK105.out 0).trans rfl; have hcz9_1 : w7.cell? ⟨gb105, 1, none⟩ = some (.bool false) := (blk_cell BK105.out 1).trans rfl; have hfz9_0 := blk_frozen BK105.out 0; have hfz9_1 := blk_frozen BK105.out 1; have hcz10_0 : w7.cell? ⟨gb101, 0, none⟩ = some (.int .i64 a0_0) := (blk_cell BK101.out 0).trans rfl; have hcz10_1 : w7.cell? ⟨gb101, 1, none⟩ = some (.int .i64 a0_1) := (blk_cell BK101.out 1).trans rfl; have hcz10_2 : w7.cell? ⟨gb101, 2, none⟩ = some (.string a0_2) := (blk_cell BK101.out 2).trans rfl; have hfz10_0 := blk_frozen BK101.out 0; have hfz10_1 := blk_frozen BK101.out 1; have hfz10_2 := blk_frozen BK101.out 2))
    go_ret
    exact ⟨by first | rfl | (simp [errW_none, errW_some] <;> rfl) | (simp [*, errW_none, errW_some] <;> rfl), by repeat (first | (with_reducible first | exact HB.out | apply below_alloc | apply pw_below_drewN | apply below_drew1 | refine below_set ?_ GE101.out | refine below_set ?_ GE105.out) | exact HB.out)⟩
  · replace c3 := Bool.eq_false_iff.mpr c3
    subst c3
    have H1 : (if a0_0 = 2 then ((points_Count.f a0_2).bind fun t106 => (some (mx t106 0))) else (some 0)) = some r := by rw [if_neg (show ¬ (false = true) by decide)] at H; exact H
    clear H
    have H := H1
    clear H1
    by_cases c11 : a0_0 = 2
    · rw [if_pos c11] at H
      have c11b0 : (a0_0 == 2) = true := beq_iff_eq.mpr c11
      have c11b1 : (a0_0 != 2) = false := bne_eq_false_iff_eq.mpr c11
      clear c11
      replace H := Option.bind_eq_some_iff.mp H
      obtain ⟨t106, A120, H⟩ := H
      replace H : (some (mx t106 0)) = some r := H
      have A12 := Aside0.mk A120
      clear A120
      obtain ⟨ji13, hji13⟩ : ∃ j_ : Int, (mx t106 0) = j_ := ⟨_, rfl⟩
      replace H : (some ji13) = some r := by first | (rw [hji13] at H; exact H) | (simp only [hji13] at H ⊢; exact H)
      (try rw [hji13] at A2)
      (try rw [hji13] at A12)
      (try (have hji13l : 0 ≤ ji13 := by (rw [← hji13]; unfold mx; (repeat' split) <;> omega)))
      (try (have hji13m : 0 ≤ ji13 := by omega))
      have hji13_ : (if t106 < 0 then 0 else t106) = ji13 := hji13
      obtain rfl := Option.some.inj H
      go_enter Tryd.func49, Tryd.ntmps49
      go_wp2_with (first | ((with_reducible refine gate_dst (N := 1) rfl ?_); refine box_event ?hg (N := 1) ?hd (cs := #[.int .i64 a0_0, .int .i64 a0_1, .string a0_2]) (t := 26) ?hr ?_; (case hd => rfl); (case hg => rfl); (case hr => first | (go_simp; done) | (go_simp; rfl)); intro gb101 hg w14 hbox hb; have n0_ := Aside0.mk (below_step (by repeat (first | (with_reducible first | exact HB.out | apply below_alloc | apply pw_below_drewN | apply below_drew1) | exact HB.out)) hb); have n1_ := Aside0.mk (hbox); have n2_ := Aside0.mk ((by rw [hg]; exact (below_size (by repeat (first | (with_reducible first | exact HB.out | apply below_alloc | apply pw_below_drewN | apply below_drew1) | exact HB.out))) : w.heap.size ≤ gb101)); have n3_ := Aside0.mk ((by rw [hg]; exact (below_size (by repeat (first | (with_reducible first | exact HB.out | apply below_alloc | apply pw_below_drewN | apply below_drew1) | exact HB.out))) : w.heap.size ≤ gb101)); clear HB; have HB := n0_; have BK101 := n1_; have GW101 := n2_; have GE101 := n3_; clear n0_ n1_ n2_ n3_; clear hb hbox hg; have hcz15_0 : w14.cell? ⟨gb101, 0, none⟩ = some (.int .i64 a0_0) := (blk_cell BK101.out 0).trans rfl; have hcz15_1 : w14.cell? ⟨gb101, 1, none⟩ = some (.int .i64 a0_1) := (blk_cell BK101.out 1).trans rfl; have hcz15_2 : w14.cell? ⟨gb101, 2, none⟩ = some (.string a0_2) := (blk_cell BK101.out 2).trans rfl; have hfz15_0 := blk_frozen BK101.out 0; have hfz15_1 := blk_frozen BK101.out 1; have hfz15_2 := blk_frozen BK101.out 2) | ((with_reducible refine gate_callee (f := 83) rfl ?_); refine goesL_ (some 7) rfl rfl Tryd.func83 (by kernel_rfl) rfl #[.agg #[.int .i64 a0_0, .int .i64 a0_1, .string a0_2]] rfl (by (try simp only [List.map_toArray, List.map_cons, List.map_nil]); first | done | rfl | (simp only [List.length_drop, List.length_take]; rfl)) ?_; (with_reducible refine (span_of.calls a0_0 a0_1 a0_2 t102 false t104 _ ?side1 A2.out).mono ?_); (case side1 => first | (with_reducible exact HG.out) | exact Glob.below HG.out (by repeat (first | (with_reducible first | exact HB.out | apply below_alloc | apply pw_below_drewN | apply below_drew1 | refine below_set ?_ GE101.out) | exact HB.out)) | exact Glob.drawn HG.out (by repeat (first | exact Drawn0.refl _ | apply Drawn0.step))); rintro e w16 ⟨rfl, hb⟩; refine ⟨_, rfl, ?_⟩; have n0_ := Aside0.mk (blk_below (g := gb101) (o := .cells #[.int .i64 a0_0, .int .i64 a0_1, .string a0_2] 26 (0, 0)) (by (with_reducible repeat (first | refine blk_drewN ?_ _ | refine blk_drew ?_ | refine blk_alloc ?_ _)); exact BK101.out) hb); have n1_ := Aside0.mk (below_step (by repeat (first | (with_reducible first | exact HB.out | apply below_alloc | apply pw_below_drewN | apply below_drew1 | refine below_set ?_ GE101.out) | exact HB.out)) hb); clear BK101; clear HB; have BK101 := n0_; have HB := n1_; clear n0_ n1_; (try clear hb); (try clear hb2); (try clear hk); (try clear hi)) | ((with_reducible refine gate_dst (N := 3) rfl ?_); refine box_event ?hg (N := 3) ?hd (cs := #[.bool false, .bool false]) (t := 102) ?hr ?_; (case hd => rfl); (case hg => rfl); (case hr => first | (go_simp; done) | (go_simp; rfl)); intro gb105 hg w17 hbox hb; have n0_ := Aside0.mk (blk_below (g := gb101) (o := .cells #[.int .i64 a0_0, .int .i64 a0_1, .string a0_2] 26 (0, 0)) (by (with_reducible repeat (first | refine blk_drewN ?_ _ | refine blk_drew ?_ | refine blk_alloc ?_ _)); exact BK101.out) hb); have n1_ := Aside0.mk (below_step (by repeat (first | (with_reducible first | exact HB.out | apply below_alloc | apply pw_below_drewN | apply below_drew1 | refine below_set ?_ GE101.out) | exact HB.out)) hb); have n2_ := Aside0.mk (hbox); have n3_ := Aside0.mk ((by rw [hg]; exact (below_size (by repeat (first | (with_reducible first | exact HB.out | apply below_alloc | apply pw_below_drewN | apply below_drew1 | refine below_set ?_ GE101.out) | exact HB.out))) : w.heap.size ≤ gb105)); have n4_ := Aside0.mk ((by rw [hg]; exact (below_size (by repeat (first | (with_reducible first | exact HB.out | apply below_alloc | apply pw_below_drewN | apply below_drew1 | refine below_set ?_ GE101.out) | exact HB.out))) : w.heap.size ≤ gb105)); have n5_ := Aside0.mk ((by rw [hg]; exact Nat.ne_of_lt (blk_lt (g := gb101) (o := .cells #[.int .i64 a0_0, .int .i64 a0_1, .string a0_2] 26 (0, 0)) (by (with_reducible repeat (first | refine blk_drewN ?_ _ | refine blk_drew ?_ | refine blk_alloc ?_ _)); exact BK101.out)) : gb101 ≠ gb105)); have n6_ := Aside0.mk ((by rw [hg]; exact Nat.ne_of_gt (blk_lt (g := gb101) (o := .cells #[.int .i64 a0_0, .int .i64 a0_1, .string a0_2] 26 (0, 0)) (by (with_reducible repeat (first | refine blk_drewN ?_ _ | refine blk_drew ?_ | refine blk_alloc ?_ _)); exact BK101.out)) : gb105 ≠ gb101)); clear BK101; clear HB; have BK101 := n0_; have HB := n1_; have BK105 := n2_; have GW105 := n3_; have GE105 := n4_; have NB101_105 := n5_; have NB105_101 := n6_; clear n0_ n1_ n2_ n3_ n4_ n5_ n6_; clear hb hbox hg; have hnb18 := NB105_101.out; have hnc18 := NB101_105.out; have hcz19_0 : w17.cell? ⟨gb105, 0, none⟩ = some (.bool false) := (blk_cell BK105.out 0).trans rfl; have hcz19_1 : w17.cell? ⟨gb105, 1, none⟩ = some (.bool false) := (blk_cell BK105.out 1).trans rfl; have hfz19_0 := blk_frozen BK105.out 0; have hfz19_1 := blk_frozen BK105.out 1; have hcz20_0 : w17.cell? ⟨gb101, 0, none⟩ = some (.int .i64 a0_0) := (blk_cell BK101.out 0).trans rfl; have hcz20_1 : w17.cell? ⟨gb101, 1, none⟩ = some (.int .i64 a0_1) := (blk_cell BK101.out 1).trans rfl; have hcz20_2 : w17.cell? ⟨gb101, 2, none⟩ = some (.string a0_2) := (blk_cell BK101.out 2).trans rfl; have hfz20_0 := blk_frozen BK101.out 0; have hfz20_1 := blk_frozen BK101.out 1; have hfz20_2 := blk_frozen BK101.out 2) | ((with_reducible refine gate_callee (f := 17) rfl ?_); refine goesL_ (some 21) rfl rfl Tryd.func17 (by kernel_rfl) rfl #[.string a0_2] rfl (by (try simp only [List.map_toArray, List.map_cons, List.map_nil]); first | done | rfl | (simp only [List.length_drop, List.length_take]; rfl)) ?_; (with_reducible refine (points_Count.calls a0_2 t106 _ ?side1 A12.out).mono ?_); (case side1 => first | (with_reducible exact HG.out) | exact Glob.below HG.out (by repeat (first | (with_reducible first | exact HB.out | apply below_alloc | apply pw_below_drewN | apply below_drew1 | refine below_set ?_ GE101.out | refine below_set ?_ GE105.out) | exact HB.out)) | exact Glob.drawn HG.out (by repeat (first | exact Drawn0.refl _ | apply Drawn0.step))); rintro e w21 ⟨rfl, hb⟩; refine ⟨_, rfl, ?_⟩; have n0_ := Aside0.mk (blk_below (g := gb101) (o := .cells #[.int .i64 a0_0, .int .i64 a0_1, .string a0_2] 26 (0, 0)) (by (with_reducible repeat (first | refine blk_drewN ?_ _ | refine blk_drew ?_ | refine blk_alloc ?_ _)); refine blk_far ?_ NB101_105.out _; (with_reducible repeat (first | refine blk_drewN ?_ _ | refine blk_drew ?_ | refine blk_alloc ?_ _)); refine blk_far ?_ NB101_105.out _; (with_reducible repeat (first | refine blk_drewN ?_ _ | refine blk_drew ?_ | refine blk_alloc ?_ _)); exact BK101.out) hb); have n1_ := Aside0.mk (blk_below (g := gb105) (o := .cells #[.bool t102, .bool false] 102 (0, 0)) (by (with_reducible repeat (first | refine blk_drewN ?_ _ | refine blk_drew ?_ | refine blk_alloc ?_ _)); refine blk_put (cs := #[.bool t102, .bool false]) ?_ 1 _ rfl; (with_reducible repeat (first | refine blk_drewN ?_ _ | refine blk_drew ?_ | refine blk_alloc ?_ _)); refine blk_put (cs := #[.bool false, .bool false]) ?_ 0 _ rfl; (with_reducible repeat (first | refine blk_drewN ?_ _ | refine blk_drew ?_ | refine blk_alloc ?_ _)); exact BK105.out) hb); have n2_ := Aside0.mk (below_step (by repeat (first | (with_reducible first | exact HB.out | apply below_alloc | apply pw_below_drewN | apply below_drew1 | refine below_set ?_ GE101.out | refine below_set ?_ GE105.out) | exact HB.out)) hb); clear BK101; clear BK105; clear HB; have BK101 := n0_; have BK105 := n1_; have HB := n2_; clear n0_ n1_ n2_; (try clear hb); (try clear hb2); (try clear hk); (try clear hi)))
      go_ret
      exact ⟨by first | rfl | (simp [errW_none, errW_some] <;> rfl) | (simp only [← hji13]; first | rfl | (simp [errW_none, errW_some] <;> rfl)) | (simp [*, errW_none, errW_some] <;> rfl), by repeat (first | (with_reducible first | exact HB.out | apply below_alloc | apply pw_below_drewN | apply below_drew1 | refine below_set ?_ GE101.out | refine below_set ?_ GE105.out) | exact HB.out)⟩
    · rw [if_neg c11] at H
      have c11b0 : (a0_0 == 2) = false := beq_eq_false_iff_ne.mpr c11
      have c11b1 : (a0_0 != 2) = true := bne_iff_ne.mpr c11
      obtain rfl := Option.some.inj H
      go_enter Tryd.func49, Tryd.ntmps49
      go_wp2_with (first | ((with_reducible refine gate_dst (N := 1) rfl ?_); refine box_event ?hg (N := 1) ?hd (cs := #[.int .i64 a0_0, .int .i64 a0_1, .string a0_2]) (t := 26) ?hr ?_; (case hd => rfl); (case hg => rfl); (case hr => first | (go_simp; done) | (go_simp; rfl)); intro gb101 hg w22 hbox hb; have n0_ := Aside0.mk (below_step (by repeat (first | (with_reducible first | exact HB.out | apply below_alloc | apply pw_below_drewN | apply below_drew1) | exact HB.out)) hb); have n1_ := Aside0.mk (hbox); have n2_ := Aside0.mk ((by rw [hg]; exact (below_size (by repeat (first | (with_reducible first | exact HB.out | apply below_alloc | apply pw_below_drewN | apply below_drew1) | exact HB.out))) : w.heap.size ≤ gb101)); have n3_ := Aside0.mk ((by rw [hg]; exact (below_size (by repeat (first | (with_reducible first | exact HB.out | apply below_alloc | apply pw_below_drewN | apply below_drew1) | exact HB.out))) : w.heap.size ≤ gb101)); clear HB; have HB := n0_; have BK101 := n1_; have GW101 := n2_; have GE101 := n3_; clear n0_ n1_ n2_ n3_; clear hb hbox hg; have hcz23_0 : w22.cell? ⟨gb101, 0, none⟩ = some (.int .i64 a0_0) := (blk_cell BK101.out 0).trans rfl; have hcz23_1 : w22.cell? ⟨gb101, 1, none⟩ = some (.int .i64 a0_1) := (blk_cell BK101.out 1).trans rfl; have hcz23_2 : w22.cell? ⟨gb101, 2, none⟩ = some (.string a0_2) := (blk_cell BK101.out 2).trans rfl; have hfz23_0 := blk_frozen BK101.out 0; have hfz23_1 := blk_frozen BK101.out 1; have hfz23_2 := blk_frozen BK101.out 2) | ((with_reducible refine gate_callee (f := 83) rfl ?_); refine goesL_ (some 7) rfl rfl Tryd.func83 (by kernel_rfl) rfl #[.agg #[.int .i64 a0_0, .int .i64 a0_1, .string a0_2]] rfl (by (try simp only [List.map_toArray, List.map_cons, List.map_nil]); first | done | rfl | (simp only [List.length_drop, List.length_take]; rfl)) ?_; (with_reducible refine (span_of.calls a0_0 a0_1 a0_2 t102 false t104 _ ?side1 A2.out).mono ?_); (case side1 => first | (with_reducible exact HG.out) | exact Glob.below HG.out (by repeat (first | (with_reducible first | exact HB.out | apply below_alloc | apply pw_below_drewN | apply below_drew1 | refine below_set ?_ GE101.out) | exact HB.out)) | exact Glob.drawn HG.out (by repeat (first | exact Drawn0.refl _ | apply Drawn0.step))); rintro e w24 ⟨rfl, hb⟩; refine ⟨_, rfl, ?_⟩; have n0_ := Aside0.mk (blk_below (g := gb101) (o := .cells #[.int .i64 a0_0, .int .i64 a0_1, .string a0_2] 26 (0, 0)) (by (with_reducible repeat (first | refine blk_drewN ?_ _ | refine blk_drew ?_ | refine blk_alloc ?_ _)); exact BK101.out) hb); have n1_ := Aside0.mk (below_step (by repeat (first | (with_reducible first | exact HB.out | apply below_alloc | apply pw_below_drewN | apply below_drew1 | refine below_set ?_ GE101.out) | exact HB.out)) hb); clear BK101; clear HB; have BK101 := n0_; have HB := n1_; clear n0_ n1_; (try clear hb); (try clear hb2); (try clear hk); (try clear hi)) | ((with_reducible refine gate_dst (N := 3) rfl ?_); refine box_event ?hg (N := 3) ?hd (cs := #[.bool false, .bool false]) (t := 102) ?hr ?_; (case hd => rfl); (case hg => rfl); (case hr => first | (go_simp; done) | (go_simp; rfl)); intro gb105 hg w25 hbox hb; have n0_ := Aside0.mk (blk_below (g := gb101) (o := .cells #[.int .i64 a0_0, .int .i64 a0_1, .string a0_2] 26 (0, 0)) (by (with_reducible repeat (first | refine blk_drewN ?_ _ | refine blk_drew ?_ | refine blk_alloc ?_ _)); exact BK101.out) hb); have n1_ := Aside0.mk (below_step (by repeat (first | (with_reducible first | exact HB.out | apply below_alloc | apply pw_below_drewN | apply below_drew1 | refine below_set ?_ GE101.out) | exact HB.out)) hb); have n2_ := Aside0.mk (hbox); have n3_ := Aside0.mk ((by rw [hg]; exact (below_size (by repeat (first | (with_reducible first | exact HB.out | apply below_alloc | apply pw_below_drewN | apply below_drew1 | refine below_set ?_ GE101.out) | exact HB.out))) : w.heap.size ≤ gb105)); have n4_ := Aside0.mk ((by rw [hg]; exact (below_size (by repeat (first | (with_reducible first | exact HB.out | apply below_alloc | apply pw_below_drewN | apply below_drew1 | refine below_set ?_ GE101.out) | exact HB.out))) : w.heap.size ≤ gb105)); have n5_ := Aside0.mk ((by rw [hg]; exact Nat.ne_of_lt (blk_lt (g := gb101) (o := .cells #[.int .i64 a0_0, .int .i64 a0_1, .string a0_2] 26 (0, 0)) (by (with_reducible repeat (first | refine blk_drewN ?_ _ | refine blk_drew ?_ | refine blk_alloc ?_ _)); exact BK101.out)) : gb101 ≠ gb105)); have n6_ := Aside0.mk ((by rw [hg]; exact Nat.ne_of_gt (blk_lt (g := gb101) (o := .cells #[.int .i64 a0_0, .int .i64 a0_1, .string a0_2] 26 (0, 0)) (by (with_reducible repeat (first | refine blk_drewN ?_ _ | refine blk_drew ?_ | refine blk_alloc ?_ _)); exact BK101.out)) : gb105 ≠ gb101)); clear BK101; clear HB; have BK101 := n0_; have HB := n1_; have BK105 := n2_; have GW105 := n3_; have GE105 := n4_; have NB101_105 := n5_; have NB105_101 := n6_; clear n0_ n1_ n2_ n3_ n4_ n5_ n6_; clear hb hbox hg; have hnb26 := NB105_101.out; have hnc26 := NB101_105.out; have hcz27_0 : w25.cell? ⟨gb105, 0, none⟩ = some (.bool false) := (blk_cell BK105.out 0).trans rfl; have hcz27_1 : w25.cell? ⟨gb105, 1, none⟩ = some (.bool false) := (blk_cell BK105.out 1).trans rfl; have hfz27_0 := blk_frozen BK105.out 0; have hfz27_1 := blk_frozen BK105.out 1; have hcz28_0 : w25.cell? ⟨gb101, 0, none⟩ = some (.int .i64 a0_0) := (blk_cell BK101.out 0).trans rfl; have hcz28_1 : w25.cell? ⟨gb101, 1, none⟩ = some (.int .i64 a0_1) := (blk_cell BK101.out 1).trans rfl; have hcz28_2 : w25.cell? ⟨gb101, 2, none⟩ = some (.string a0_2) := (blk_cell BK101.out 2).trans rfl; have hfz28_0 := blk_frozen BK101.out 0; have hfz28_1 := blk_frozen BK101.out 1; have hfz28_2 := blk_frozen BK101.out 2))
      go_ret
      exact ⟨by first | rfl | (simp [errW_none, errW_some] <;> rfl) | (simp [*, errW_none, errW_some] <;> rfl), by repeat (first | (with_reducible first | exact HB.out | apply below_alloc | apply pw_below_drewN | apply below_drew1 | refine below_set ?_ GE101.out | refine below_set ?_ GE105.out) | exact HB.out)⟩
end Go.Proofs.YtkefbljogjcodaaDoor.F
end
section
namespace Go.Proofs.YtkefbljogjcodaaDoor.F
open Go.RowKit Go.Proofs.YtkefbljogjcodaaDoorW.PrintWords Go.Proofs.YtkefbljogjcodaaDoorW.PrintLast Go.Proofs.YtkefbljogjcodaaDoorW.PrintMore
attribute [local go_sem] max2_int min2_int max_two min_two max_three min_three max_four min_four cell_setCell_isSome
set_option linter.unusedVariables false
set_option linter.unusedSimpArgs false
def op_row_sum_Out.l0 : Nat → Int → List (S26) → Int → Int → Option (Int)
  | 0, _, _, _, _ => none
  | k + 1, x5, x8, x9, x10 => if x10 < x9 then (if 0 ≤ x10 then (if x10 < (x8.length : Int) then ((span_Out.f ((rd_T26 x8 x10).f0) ((rd_T26 x8 x10).f1) ((rd_T26 x8 x10).f2)).bind fun t103 => (op_row_sum_Out.l0 k (wrap64 (x5 + t103)) x8 x9 (wrap64 (x10 + 1)))) else (none)) else (none)) else (some x5)
def op_row_sum_Out.f (k : Nat) (l0 : List (S26)) : Option (Int) := op_row_sum_Out.l0 k 0 l0 (l0.length : Int) 0
set_option maxHeartbeats 8000000 in
set_option maxRecDepth 100000 in
theorem op_row_sum_Out.calls (k : Nat) (A0 : Option Addr) (c0 : Nat) (l0 : List (S26)) (r : Int) (w : World) (hG : Glob w) (hr0 : Kd.C k26 w A0 l0.length l0) (hc0 : l0.length ≤ c0) (h : op_row_sum_Out.f k l0 = some r) :
    Calls Tryd.prog 66 #[.slice A0 l0.length c0, .func (.func 49) #[] #[]] w fun e w' => e = .returned (.int .i64 r) ∧ Below w.heap.size w w' := by
  have hu26 := Tryd.underlying26
  have HG := Aside0.mk hG
  clear hG
  have HR0 := Aside0.mk hr0
  have HC0 := Aside0.mk hc0
  clear hr0 hc0
  have HB := Aside0.mk (Below.refl w.heap.size w)
  have H : (op_row_sum_Out.l0 k 0 l0 (l0.length : Int) 0) = some r := h
  clear h
  have H' := Aside0.mk H
  clear H
  go_enter Tryd.func66, Tryd.ntmps66
  go_wp2
  go_loopg [5, 10] k (fun kq v5 v10 w' => ∃ (x5_1 : Int) (x10_1 : Int), v5 = .int .i64 x5_1 ∧ v10 = .int .i64 x10_1 ∧ Aside0 (op_row_sum_Out.l0 kq x5_1 l0 (l0.length : Int) x10_1 = some r) ∧ Aside0 (kq ≤ k) ∧ Aside0 (Below w.heap.size w w'))
  case atStart => exact ⟨(0), (0), (by first | rfl | (simp; done) | (simp [*]; done)), (by first | rfl | (simp; done) | (simp [*]; done)), H', ⟨Nat.le_refl _⟩, ⟨by repeat (first | (with_reducible first | exact HB.out | apply below_alloc | apply pw_below_drewN | apply below_drew1) | exact HB.out)⟩⟩
  case round =>
    clear H'
    obtain ⟨x5_1, x10_1, rfl, rfl, HA, HK1, HB⟩ := hrel
    cases gk with
    | zero => exact absurd HA.out (by simp [op_row_sum_Out.l0])
    | succ k1 =>
      have H := HA.out
      clear HA
      simp only [op_row_sum_Out.l0] at H
      by_cases c2 : x10_1 < (l0.length : Int)
      · rw [if_pos c2] at H
        have c2b0 : decide (x10_1 < (l0.length : Int)) = true := decide_eq_true c2
        clear c2
        by_cases c3 : 0 ≤ x10_1
        · rw [if_pos c3] at H
          have c3b0 : decide (0 ≤ x10_1) = true := decide_eq_true c3
          clear c3
          by_cases c4 : x10_1 < (l0.length : Int)
          · rw [if_pos c4] at H
            have c4b0 : decide (x10_1 < (l0.length : Int)) = true := decide_eq_true c4
            clear c4
            replace H := Option.bind_eq_some_iff.mp H
            obtain ⟨t103, A50, H⟩ := H
            replace H : (op_row_sum_Out.l0 k1 (wrap64 (x5_1 + t103)) l0 (l0.length : Int) (wrap64 (x10_1 + 1))) = some r := H
            have A5 := Aside0.mk A50
            clear A50
            have H' := Aside0.mk H
            clear H
            have p101 : 0 ≤ (x10_1 : Int) := of_decide_eq_true (by first | (with_reducible assumption) | assumption)
            have q101 : x10_1 < (l0.length : Int) := of_decide_eq_true (by first | (with_reducible assumption) | assumption)
            obtain ⟨ad101, e101, hx101_0, hx101_1, hx101_2⟩ := at_T26 HR0.out x10_1 p101 q101
            cases e101
            replace hx101_0 := (HB.out.cell (World.block_lt_of_cell? w _ hx101_0)).trans hx101_0
            replace hx101_1 := (HB.out.cell (World.block_lt_of_cell? w _ hx101_1)).trans hx101_1
            replace hx101_2 := (HB.out.cell (World.block_lt_of_cell? w _ hx101_2)).trans hx101_2
            replace p101 := eq_true p101
            replace q101 := eq_true q101
            go_wp2_with (first | ((with_reducible refine gate_dst (N := 7) rfl ?_); refine box_event ?hg (N := 7) ?hd (cs := #[.int .i64 0, .int .i64 0, .string (⟨#[]⟩ : ByteArray)]) (t := 26) ?hr ?_; (case hd => rfl); (case hg => rfl); (case hr => first | (go_simp; done) | (go_simp; rfl)); intro gb102 hg w6 hbox hb; have n0_ := Aside0.mk (below_step (by repeat (first | (with_reducible first | exact HB.out | apply below_alloc | apply pw_below_drewN | apply below_drew1) | exact HB.out)) hb); have n1_ := Aside0.mk (hbox); have n2_ := Aside0.mk ((by rw [hg]; exact (below_size (by repeat (first | (with_reducible first | exact HB.out | apply below_alloc | apply pw_below_drewN | apply below_drew1) | exact HB.out))) : w.heap.size ≤ gb102)); have n3_ := Aside0.mk ((by rw [hg]; exact (below_size (by repeat (first | (with_reducible first | exact HB.out | apply below_alloc | apply pw_below_drewN | apply below_drew1) | exact HB.out))) : w.heap.size ≤ gb102)); clear HB; have HB := n0_; have BK102 := n1_; have GW102 := n2_; have GE102 := n3_; clear n0_ n1_ n2_ n3_; clear hb hbox hg; have hcz7_0 : w6.cell? ⟨gb102, 0, none⟩ = some (.int .i64 0) := (blk_cell BK102.out 0).trans rfl; have hcz7_1 : w6.cell? ⟨gb102, 1, none⟩ = some (.int .i64 0) := (blk_cell BK102.out 1).trans rfl; have hcz7_2 : w6.cell? ⟨gb102, 2, none⟩ = some (.string (⟨#[]⟩ : ByteArray)) := (blk_cell BK102.out 2).trans rfl; have hfz7_0 := blk_frozen BK102.out 0; have hfz7_1 := blk_frozen BK102.out 1; have hfz7_2 := blk_frozen BK102.out 2) | ((with_reducible refine gate_value (x := .tmp 15) rfl ?_); refine goesV_ (some 17) rfl rfl Tryd.func49 (by kernel_rfl) rfl #[.agg #[.int .i64 ((rd_T26 l0 x10_1).f0), .int .i64 ((rd_T26 l0 x10_1).f1), .string ((rd_T26 l0 x10_1).f2)]] rfl rfl (by (try simp only [List.map_toArray, List.map_cons, List.map_nil]); first | done | rfl | (simp only [List.length_drop, List.length_take]; rfl)) ?_; (with_reducible refine (span_Out.calls ((rd_T26 l0 x10_1).f0) ((rd_T26 l0 x10_1).f1) ((rd_T26 l0 x10_1).f2) t103 _ ?side1 A5.out).mono ?_); (case side1 => first | (with_reducible exact HG.out) | exact Glob.below HG.out (by repeat (first | (with_reducible first | exact HB.out | apply below_alloc | apply pw_below_drewN | apply below_drew1 | refine below_set ?_ GE102.out) | exact HB.out)) | exact Glob.drawn HG.out (by repeat (first | exact Drawn0.refl _ | apply Drawn0.step))); rintro e w8 ⟨rfl, hb⟩; refine ⟨_, rfl, ?_⟩; have n0_ := Aside0.mk (blk_below (g := gb102) (o := .cells #[.int .i64 ((rd_T26 l0 x10_1).f0), .int .i64 ((rd_T26 l0 x10_1).f1), .string ((rd_T26 l0 x10_1).f2)] 26 (0, 0)) (by (with_reducible repeat (first | refine blk_drewN ?_ _ | refine blk_drew ?_ | refine blk_alloc ?_ _)); refine blk_put (cs := #[.int .i64 ((rd_T26 l0 x10_1).f0), .int .i64 ((rd_T26 l0 x10_1).f1), .string (⟨#[]⟩ : ByteArray)]) ?_ 2 _ rfl; (with_reducible repeat (first | refine blk_drewN ?_ _ | refine blk_drew ?_ | refine blk_alloc ?_ _)); refine blk_put (cs := #[.int .i64 ((rd_T26 l0 x10_1).f0), .int .i64 0, .string (⟨#[]⟩ : ByteArray)]) ?_ 1 _ rfl; (with_reducible repeat (first | refine blk_drewN ?_ _ | refine blk_drew ?_ | refine blk_alloc ?_ _)); refine blk_put (cs := #[.int .i64 0, .int .i64 0, .string (⟨#[]⟩ : ByteArray)]) ?_ 0 _ rfl; (with_reducible repeat (first | refine blk_drewN ?_ _ | refine blk_drew ?_ | refine blk_alloc ?_ _)); exact BK102.out) hb); have n1_ := Aside0.mk (below_step (by repeat (first | (with_reducible first | exact HB.out | apply below_alloc | apply pw_below_drewN | apply below_drew1 | refine below_set ?_ GE102.out) | exact HB.out)) hb); clear BK102; clear HB; have BK102 := n0_; have HB := n1_; clear n0_ n1_; (try clear hb); (try clear hb2); (try clear hk); (try clear hi)))
            go_roundg k1
            case measure => have := HK1.out; omega
            case rel => exact ⟨(wrap64 (x5_1 + t103)), (wrap64 (x10_1 + 1)), (by first | rfl | (simp; done) | (simp [*]; done)), (by first | rfl | (simp; done) | (simp [*]; done)), H', ⟨by have := HK1.out; omega⟩, ⟨by repeat (first | (with_reducible first | exact HB.out | apply below_alloc | apply pw_below_drewN | apply below_drew1 | refine below_set ?_ GE102.out) | exact HB.out)⟩⟩
          · rw [if_neg c4] at H
            exact absurd H (by simp)
        · rw [if_neg c3] at H
          exact absurd H (by simp)
      · rw [if_neg c2] at H
        have c2b0 : decide (x10_1 < (l0.length : Int)) = false := decide_eq_false c2
        clear c2
        obtain rfl := Option.some.inj H
        go_wp2
        go_ret
        exact ⟨by first | rfl | (simp [errW_none, errW_some] <;> rfl) | (simp [*, errW_none, errW_some] <;> rfl), by repeat (first | (with_reducible first | exact HB.out | apply below_alloc | apply pw_below_drewN | apply below_drew1) | exact HB.out)⟩
end Go.Proofs.YtkefbljogjcodaaDoor.F
end
section
namespace Go.Proofs.YtkefbljogjcodaaDoor.F
open Go.RowKit Go.Proofs.YtkefbljogjcodaaDoorW.PrintWords Go.Proofs.YtkefbljogjcodaaDoorW.PrintLast Go.Proofs.YtkefbljogjcodaaDoorW.PrintMore
attribute [local go_sem] max2_int min2_int max_two min_two max_three min_three max_four min_four cell_setCell_isSome
set_option linter.unusedVariables false
set_option linter.unusedSimpArgs false
def op_Out.f (k : Nat) (l0 : List (S26)) : Option (Int) := (op_row_sum_Out.f k l0).bind fun t101 => (some t101)
set_option maxHeartbeats 8000000 in
set_option maxRecDepth 100000 in
theorem op_Out.calls (k : Nat) (A0 : Option Addr) (c0 : Nat) (l0 : List (S26)) (r : Int) (w : World) (hG : Glob w) (hr0 : Kd.C k26 w A0 l0.length l0) (hc0 : l0.length ≤ c0) (h : op_Out.f k l0 = some r) :
    Calls Tryd.prog 32 #[.slice A0 l0.length c0] w fun e w' => e = .returned (.int .i64 r) ∧ Below w.heap.size w w' := by
  have HG := Aside0.mk hG
  clear hG
  have HR0 := Aside0.mk hr0
  have HC0 := Aside0.mk hc0
  clear hr0 hc0
  have HB := Aside0.mk (Below.refl w.heap.size w)
  have H : ((op_row_sum_Out.f k l0).bind fun t101 => (some t101)) = some r := h
  clear h
  replace H := Option.bind_eq_some_iff.mp H
  obtain ⟨t101, A20, H⟩ := H
  replace H : (some t101) = some r := H
  have A2 := Aside0.mk A20
  clear A20
  obtain rfl := Option.some.inj H
  go_enter Tryd.func32, Tryd.ntmps32
  go_wp2_with (first | ((with_reducible refine gate_callee (f := 66) rfl ?_); refine goesL_ (some 4) rfl rfl Tryd.func66 (by kernel_rfl) rfl #[.slice A0 l0.length c0, .func (.func 49) #[] #[]] rfl (by (try simp only [List.map_toArray, List.map_cons, List.map_nil]); first | done | rfl | (simp only [List.length_drop, List.length_take]; rfl)) ?_; (with_reducible refine (op_row_sum_Out.calls k _ _ l0 t101 _ ?side1 ?side2 ?side3 A2.out).mono ?_); (case side1 => first | (with_reducible exact HG.out) | exact Glob.below HG.out (by repeat (first | (with_reducible first | exact HB.out | apply below_alloc | apply pw_below_drewN | apply below_drew1) | exact HB.out)) | exact Glob.drawn HG.out (by repeat (first | exact Drawn0.refl _ | apply Drawn0.step))); (case side2 => repeat (first | exact HR0.out | (with_reducible refine Kd.C_alloc ?_ _) | (with_reducible refine Kd.C_drewN ?_ _) | (with_reducible refine Kd.C_drew ?_))); (case side3 => exact HC0.out); rintro e w3 ⟨rfl, hb⟩; refine ⟨_, rfl, ?_⟩; have n0_ := Aside0.mk (below_step (by repeat (first | (with_reducible first | exact HB.out | apply below_alloc | apply pw_below_drewN | apply below_drew1) | exact HB.out)) hb); clear HB; have HB := n0_; clear n0_; (try clear hb); (try clear hb2); (try clear hk); (try clear hi)))
  go_ret
  exact ⟨by first | rfl | (simp [errW_none, errW_some] <;> rfl) | (simp [*, errW_none, errW_some] <;> rfl), by repeat (first | (with_reducible first | exact HB.out | apply below_alloc | apply pw_below_drewN | apply below_drew1) | exact HB.out)⟩
end Go.Proofs.YtkefbljogjcodaaDoor.F
end
section
namespace Go.Proofs.YtkefbljogjcodaaDoor.F
open Go.RowKit Go.Proofs.YtkefbljogjcodaaDoorW.PrintWords Go.Proofs.YtkefbljogjcodaaDoorW.PrintLast Go.Proofs.YtkefbljogjcodaaDoorW.PrintMore
set_option linter.unusedVariables false
set_option linter.unusedSimpArgs false
open Go.Shelf
attribute [local go_sem] Oper.semAt_some max2_int min2_int max_two min_two
def inS (s : S26) : Int := (span_In.f s.f0 s.f1 s.f2).getD 0
def outS (s : S26) : Int := (span_Out.f s.f0 s.f1 s.f2).getD 0
def stepsOk (l : List S26) : Bool := l.all fun s => (span_In.f s.f0 s.f1 s.f2).isSome && (span_Out.f s.f0 s.f1 s.f2).isSome
structure St where
  s : S26
  i : Int
  o : Int
  h : (span_Out.f s.f0 s.f1 s.f2).isSome = true
theorem zero_out : (span_Out.f 0 0 ⟨#[]⟩).isSome = true := by simp [span_Out.f, span_of.f]
def stepsL : List S26 → Int → Int → List St
  | [], i, o => [⟨⟨0, 0, ⟨#[]⟩⟩, i, o, zero_out⟩]
  | s :: r, i, o => if h : (span_Out.f s.f0 s.f1 s.f2).isSome = true then ⟨s, i, o, h⟩ :: stepsL r (wrap64 (i + inS s)) (wrap64 (o + outS s)) else []
def encSt (x : St) : Value := .agg #[.int .i64 x.s.f0, .int .i64 x.s.f1, .string x.s.f2, .int .i64 x.i, .int .i64 x.o]
structure KpS (n m : Nat) (W W' : World) : Prop where
  b : Below n W W'
  c : ∀ (k : Nat) (o : Obj), m ≤ k → W.heap[k]? = some o → o.isCells = true → W'.heap[k]? = some o
theorem KpS.refl (n m : Nat) (W : World) : KpS n m W W := ⟨Below.refl _ _, fun _ _ _ h _ => h⟩
theorem KpS.trans {n m : Nat} {A B C : World} (h : KpS n m A B) (k : KpS n m B C) : KpS n m A C := ⟨h.b.trans k.b, fun i o hm hi ho => k.c i o hm (h.c i o hm hi ho) ho⟩
theorem KpS.put {n m : Nat} {w : World} (hn : n ≤ w.heap.size) (W : World) (l : Nat) (o o' : Obj) (hl : w.heap.size ≤ l) (h : W.heap[l]? = some o) (hc : o.isCells = false) (hw : o.isWalk = false) : KpS n m W (W.putObj l o') :=
  ⟨belowK_b hn W l o o' hl h hc hw, fun k p _ hk hp => by
    by_cases e : k = l
    · subst e; rw [h] at hk; cases hk; rw [hc] at hp; cases hp
    · exact (World.putObj_heap_other e).trans hk⟩
theorem KpS.set {n m : Nat} (W : World) (b : Nat) (v : Value) (hn : n ≤ b) (hm : b < m) : KpS n m W (W.setCell ⟨b, 0, none⟩ v) :=
  ⟨(Below.refl _ W).setCell (p := ⟨b, 0, none⟩) hn v, fun k o hk h _ => (Below.heap_setCell W ⟨b, 0, none⟩ v k (by show k ≠ b; omega)).trans h⟩
theorem KpS.more {n m : Nat} {W W' : World} (h : Below W.heap.size W W') (hn : n ≤ W.heap.size) : KpS n m W W' :=
  ⟨h.mono hn, fun k o _ hk _ => (h.block k (Array.getElem?_eq_some_iff.1 hk).1).trans hk⟩
theorem grown_of_below {W W' : World} (h : Below W.heap.size W W') : W.grownBy W' none := ⟨h.os, h.tape, h.output, h.size, fun k hk _ => h.block k hk⟩
theorem abides_more {β : Type} {B : Nat} {J : β → World → Prop} (hJ : AbidesFrom B J) {s : β} {W W' : World} (h : J s W) (hb : Below W.heap.size W W') : J s W' := hJ s W W' none h (grown_of_below hb) (fun r e => by cases e)
theorem some_in {s : S26} (h : (span_In.f s.f0 s.f1 s.f2).isSome = true) : span_In.f s.f0 s.f1 s.f2 = some (inS s) := by
  unfold inS
  cases hh : span_In.f s.f0 s.f1 s.f2 with
  | none => rw [hh] at h; cases h
  | some v => rfl
theorem some_out {s : S26} (h : (span_Out.f s.f0 s.f1 s.f2).isSome = true) : span_Out.f s.f0 s.f1 s.f2 = some (outS s) := by
  unfold outS
  cases hh : span_Out.f s.f0 s.f1 s.f2 with
  | none => rw [hh] at h; cases h
  | some v => rfl
theorem stepsOk_at {l pre r : List S26} {s : S26} (h : stepsOk l = true) (e : l = pre ++ s :: r) : span_In.f s.f0 s.f1 s.f2 = some (inS s) ∧ span_Out.f s.f0 s.f1 s.f2 = some (outS s) := by
  have := List.all_eq_true.1 h s (by rw [e]; simp)
  rw [Bool.and_eq_true] at this
  exact ⟨some_in this.1, some_out this.2⟩
set_option maxRecDepth 100000 in
set_option maxHeartbeats 4000000 in
theorem steps1_in (n l Bs n₀ m : Nat) (hn : 1 ≤ n) (A0 : Option Addr) (c0 : Nat) (l0 : List S26) (w : World) (hn₀ : n₀ = w.heap.size) (hG : Glob w) (hr0 : Kd.C k26 w A0 l0.length l0) (hok : stepsOk l0 = true) (J Jx : List St → World → Prop)
    (hY : ∀ pre x W, J pre W → pre.length < l0.length + 1 → YieldAt Fence.wide (n - 1) Tryd.prog l #[encSt x] W fun e W' =>
      (e = .returned (.bool true) ∧ J (pre ++ [x]) W' ∧ KpS n₀ m W W') ∨ (e = .returned (.bool false) ∧ Jx (pre ++ [x]) W'))
    (W : World) (hJ : AbidesFrom W.heap.size J) (hm : m ≤ W.heap.size)
    (hB : Below n₀ w W) (hBs : W.cell? ⟨Bs, 0, none⟩ = some (.slice A0 l0.length c0)) (h0 : J [] W) :
    CallsIn Fence.wide n Tryd.prog 87 #[.func (.yield l) #[] #[], .pointer (some ⟨Bs, 0, none⟩)] W fun e W' => (∃ v, e = .returned v) ∧
      ((∃ ys, ys = stepsL l0 0 0 ∧ J ys W') ∨ (∃ pre, pre <+: stepsL l0 0 0 ∧ Jx pre W')) := by
  subst hn₀
  have HG := Aside0.mk hG
  have HR0 := Aside0.mk hr0
  have HY := Aside0.mk hY
  have HB := Aside0.mk hB
  have HJ := Aside0.mk hJ
  have H0 := Aside0.mk h0
  have HOK := Aside0.mk hok
  have HM : Aside0 (l0.length ≤ 9223372036854775807) := ⟨hr0.2.1⟩
  have HMM := Aside0.mk hm
  clear hG hr0 hY hB hJ h0 hok hm
  refine callsIn_of_wp Tryd.func87 rfl trivial ?_ rfl
  simp only [Tryd.ntmps87, List.size_toArray, List.length_cons, List.length_nil, Nat.reduceAdd, Nat.reduceSub, Array.replicate_succ, Array.replicate_zero, List.push_toArray, List.append_toArray, List.nil_append, List.cons_append]
  gi_wp2
  gi_loopw [3, 4, 9] (fun v3 v4 v9 wr => ∃ (done rest : List S26) (i o : Int), v3 = .int .i64 i ∧ v4 = .int .i64 o ∧ v9 = .int .i64 (done.length : Int) ∧ Aside0 (l0 = done ++ rest) ∧
    Aside0 (∃ pre, stepsL l0 0 0 = pre ++ stepsL rest i o ∧ pre.length = done.length ∧ J pre wr) ∧ Aside0 (Below w.heap.size w wr) ∧ Aside0 (W.heap.size ≤ wr.heap.size)) (fun _ _ v9 _ => l0.length - (intOf v9).toNat)
  case atStart => exact ⟨[], l0, 0, 0, rfl, rfl, rfl, ⟨rfl⟩, ⟨[], rfl, rfl, H0.out⟩, HB, ⟨Nat.le_refl _⟩⟩
  case round =>
    obtain ⟨done, rest, i, o, rfl, rfl, rfl, HL, HP, HBR, HSZ⟩ := hrel
    clear hBs
    have hdl : Aside0 (l0.length = done.length + rest.length) := ⟨by have := HL.out; rw [this]; simp⟩
    have HMR : Aside0 (m ≤ wr.heap.size) := ⟨by have := HMM.out; have := HSZ.out; omega⟩
    cases rest with
    | nil =>
      have hlt : decide ((done.length : Int) < (l0.length : Int)) = false := decide_eq_false (by have := hdl.out; simp at this; omega)
      have hlt2 : decide (done.length < l0.length) = false := decide_eq_false (by have := hdl.out; simp at this; omega)
      obtain ⟨pre, e1, e2, hJs⟩ := HP.out
      obtain ⟨fn, tmps, assign, body, hy, hR⟩ := HY.out pre ⟨⟨0, 0, ⟨#[]⟩⟩, i, o, zero_out⟩ wr hJs (by have := hdl.out; simp at this; omega)
      have E1 := Aside0.mk e1
      have RR := Aside0.mk hR
      clear e1 e2 hJs hR
      dsimp only [encSt] at hy
      gi_wp2
      refine RR.out.mono ?_
      rintro e W3 (⟨rfl, hJ3, hk3⟩ | ⟨rfl, hJx3⟩)
      · gi_wp2
        go_end0
        exact ⟨⟨_, rfl⟩, .inl ⟨_, E1.out.symm, hJ3⟩⟩
      · gi_wp2
        go_end0
        exact ⟨⟨_, rfl⟩, .inr ⟨_, ⟨[], by rw [List.append_nil]; exact E1.out.symm⟩, hJx3⟩⟩
    | cons s r =>
      have hlt : (done.length : Int) < (l0.length : Int) := by have := hdl.out; simp at this; omega
      have hlt1 : done.length < l0.length := by omega
      have hmx : (l0.length : Int) ≤ 9223372036854775807 := by have := HM.out; omega
      obtain ⟨ad, e, hx0, hx1, hx2⟩ := at_T26 (Kd.C_below HR0.out HBR.out) (done.length : Int) (by omega) hlt
      cases e
      have hrd : rd_T26 l0 (done.length : Int) = s := by
        unfold rd_T26
        rw [Int.toNat_natCast, List.getD_eq_getElem?_getD, HL.out]
        simp
      rw [hrd, Int.toNat_natCast] at hx0 hx1 hx2
      obtain ⟨pre, e1, e2, hJs⟩ := HP.out
      have hok2 := stepsOk_at HOK.out HL.out
      have hso : (span_Out.f s.f0 s.f1 s.f2).isSome = true := by rw [hok2.2]; rfl
      have HSI := Aside0.mk hok2.1
      have HSO := Aside0.mk hok2.2
      have hbl := below_alloc (Below.refl _ wr) (.cells #[.int .i64 s.f0, .int .i64 s.f1, .string s.f2] 26)
      obtain ⟨fn, tmps, assign, body, hy, hR⟩ := HY.out pre ⟨s, i, o, hso⟩ (wr.alloc (.cells #[.int .i64 s.f0, .int .i64 s.f1, .string s.f2] 26)) (abides_more HJ.out hJs hbl) (by have := hdl.out; simp at this; omega)
      have E1 := Aside0.mk e1
      have E2 := Aside0.mk e2
      have RR := Aside0.mk hR
      have HB2 := Aside0.mk (below_step HBR.out hbl)
      have BX : Aside0 ((wr.alloc (.cells #[.int .i64 s.f0, .int .i64 s.f1, .string s.f2] 26)).heap[wr.heap.size]? = some (.cells #[.int .i64 s.f0, .int .i64 s.f1, .string s.f2] 26 (0, 0))) := ⟨blk_new wr _⟩
      have HSO2 := Aside0.mk hso
      clear hrd e1 e2 hJs hok2 hR hbl
      dsimp only [encSt] at hy
      gi_wp2
      refine RR.out.mono ?_
      rintro e W3 (⟨rfl, hJ3, hk3⟩ | ⟨rfl, hJx3⟩)
      · have BX3 := Aside0.mk (hk3.c _ _ HMR.out BX.out rfl)
        have HB3 := Aside0.mk (HB2.out.trans hk3.b)
        have J3 := Aside0.mk hJ3
        have SZ3 := Aside0.mk (Nat.le_trans HSZ.out (Nat.le_trans (by simp) hk3.b.size))
        clear hJ3 hk3
        have cx0 := (blk_cell BX3.out 0).trans (show _ = some (Value.int .i64 s.f0) from rfl)
        have cx1 := (blk_cell BX3.out 1).trans (show _ = some (Value.int .i64 s.f1) from rfl)
        have cx2 := (blk_cell BX3.out 2).trans (show _ = some (Value.string s.f2) from rfl)
        gi_wp2_with (first | (refine ⟨trivial, ?_⟩; gi_at_call 80; (with_reducible refine (callsIn_wide.2 (span_In.calls _ _ _ _ _ (HG.out.below HB3.out) HSI.out)).mono ?_); rintro e W4 ⟨rfl, hb⟩; have HB4 := Aside0.mk hb; clear hb cx0 cx1 cx2; have cx0 := (blk_cell (blk_below BX3.out HB4.out) 0).trans (show _ = some (Value.int .i64 s.f0) from rfl); have cx1 := (blk_cell (blk_below BX3.out HB4.out) 1).trans (show _ = some (Value.int .i64 s.f1) from rfl); have cx2 := (blk_cell (blk_below BX3.out HB4.out) 2).trans (show _ = some (Value.string s.f2) from rfl)) | (refine ⟨trivial, ?_⟩; gi_at_call 49; (with_reducible refine (callsIn_wide.2 (span_Out.calls _ _ _ _ _ (HG.out.below (below_step HB3.out HB4.out)) HSO.out)).mono ?_); rintro e W5 ⟨rfl, hb⟩; have HB5 := Aside0.mk hb; clear hb))
        go_roundw
        case rel =>
          refine ⟨done ++ [s], r, wrap64 (i + inS s), wrap64 (o + outS s), rfl, rfl, by rw [List.length_append, List.length_singleton]; go_num, ⟨by rw [HL.out]; simp⟩, ⟨pre ++ [⟨s, i, o, hso⟩], by rw [E1.out, stepsL, dif_pos hso]; simp, by rw [List.length_append, List.length_append, E2.out]; rfl, abides_more HJ.out (abides_more HJ.out J3.out HB4.out) HB5.out⟩, ⟨below_step (below_step HB3.out HB4.out) HB5.out⟩, ⟨?_⟩⟩
          exact Nat.le_trans SZ3.out (Nat.le_trans HB4.out.size HB5.out.size)
        case measure => simp [intOf]; omega
      · gi_wp2
        refine bodyPost_ret (results_none rfl _ _ _) rfl ?_
        exact ⟨⟨_, rfl⟩, .inr ⟨_, ⟨stepsL r (wrap64 (i + inS s)) (wrap64 (o + outS s)), by rw [E1.out, stepsL.eq_2, dif_pos hso]; simp⟩, hJx3⟩⟩
def whereS (gap : Int) : List St → Int → Int
  | [], a => a
  | x :: r, a => if x.i > gap then a else whereS gap r (if x.s.f0 = 1 then wrap64 (x.o + mn x.s.f1 (wrap64 (gap - x.i))) else if x.s.f0 = 2 then wrap64 (x.o + outS x.s) else x.o)
def leastS (gap : Int) : List St → Int
  | [] => 0
  | x :: r => if wrap64 (x.o + outS x.s) < gap then leastS gap r else if x.s.f0 = 1 then wrap64 (x.i + mx (wrap64 (gap - x.o)) 0) else x.i
def place_Where.f (k : Nat) (l : List S26) (gap : Int) : Option (Int × Int) :=
  if stepsOk l = true then (op_May.f k l).bind fun e => if e = 0 then (if gap < 0 then some (0, 6) else (op_In.f k l).bind fun n => if gap > n then some (0, 6) else some (whereS gap (stepsL l 0 0) 0, 0)) else some (0, e) else none
def place_Least.f (k : Nat) (l : List S26) (gap : Int) : Option (Int × Int) :=
  if stepsOk l = true then (op_May.f k l).bind fun e => if e = 0 then (if gap < 0 then some (0, 6) else (op_Out.f k l).bind fun n => if gap > n then some (0, 6) else some (leastS gap (stepsL l 0 0), 0)) else some (0, e) else none
theorem steps.calls (A0 : Option Addr) (n c0 : Nat) (w : World) :
    Calls Tryd.prog 67 #[.slice A0 n c0] w fun e w' => e = .returned (.func (.func 87) #[] #[.pointer (some ⟨w.heap.size, 0, none⟩)]) ∧ w' = w.alloc (.cells #[.slice A0 n c0] 27) := by
  refine (callsIn_wide (n := 0)).1 ?_
  refine callsIn_of_wp Tryd.func67 rfl trivial ?_ rfl
  simp only [Tryd.ntmps67, List.size_toArray, List.length_cons, List.length_nil, Nat.reduceAdd, Nat.reduceSub, Array.replicate_succ, Array.replicate_zero, List.push_toArray, List.append_toArray, List.nil_append, List.cons_append]
  gi_wp2
  go_ret
  exact ⟨rfl, rfl⟩
set_option maxHeartbeats 4000000 in
theorem place_Where_bad (k : Nat) (A0 : Option Addr) (c0 : Nat) (l0 : List S26) (a1 e : Int) (he : e ≠ 0) (w : World) (hG : Glob w) (hr0 : Kd.C k26 w A0 l0.length l0) (hc0 : l0.length ≤ c0) (h : op_May.f k l0 = some e) :
    Calls Tryd.prog 33 #[.slice A0 l0.length c0, .int .i64 a1] w fun e2 w' => e2 = .returned (.tuple #[.int .i64 0, .int .i64 e]) ∧ Below w.heap.size w w' := by
  have HG := Aside0.mk hG
  have HR0 := Aside0.mk hr0
  have HC0 := Aside0.mk hc0
  have H := Aside0.mk h
  have d0 : (e != 0) = true := by simp [he]
  clear hG hr0 hc0 h he
  go_enter Tryd.func33, Tryd.ntmps33
  go_wp2_with ((go_at_call 47; (with_reducible refine (op_May.calls k _ _ l0 e _ (HG.out.below (below_alloc (Below.refl _ _) _)) (Kd.C_alloc HR0.out _) HC0.out H.out).mono ?_); rintro e2 w1 ⟨rfl, hb⟩; have HB1 := Aside0.mk hb; clear hb))
  go_ret2
  exact ⟨rfl, below_step (below_alloc (Below.refl _ _) _) HB1.out⟩
set_option maxHeartbeats 4000000 in
theorem place_Where_low (k : Nat) (A0 : Option Addr) (c0 : Nat) (l0 : List S26) (a1 : Int) (ha : a1 < 0) (w : World) (hG : Glob w) (hr0 : Kd.C k26 w A0 l0.length l0) (hc0 : l0.length ≤ c0) (h : op_May.f k l0 = some 0) :
    Calls Tryd.prog 33 #[.slice A0 l0.length c0, .int .i64 a1] w fun e2 w' => e2 = .returned (.tuple #[.int .i64 0, .int .i64 6]) ∧ Below w.heap.size w w' := by
  have HG := Aside0.mk hG
  have HR0 := Aside0.mk hr0
  have HC0 := Aside0.mk hc0
  have H := Aside0.mk h
  have d0 : decide (a1 < 0) = true := decide_eq_true ha
  clear hG hr0 hc0 h ha
  go_enter Tryd.func33, Tryd.ntmps33
  go_wp2_with ((go_at_call 47; (with_reducible refine (op_May.calls k _ _ l0 0 _ (HG.out.below (below_alloc (Below.refl _ _) _)) (Kd.C_alloc HR0.out _) HC0.out H.out).mono ?_); rintro e2 w1 ⟨rfl, hb⟩; have HB1 := Aside0.mk hb; have cx := (blk_cell (blk_below (blk_new w _) hb) 0).trans (show _ = some (Value.int .i64 a1) from rfl); clear hb))
  go_region
  go_wp2
  go_ret2
  exact ⟨rfl, by repeat (first | exact below_step (below_alloc (Below.refl _ _) _) HB1.out | apply pw_below_drewN | apply below_drew1)⟩
set_option maxHeartbeats 4000000 in
theorem place_Where_high (k : Nat) (A0 : Option Addr) (c0 : Nat) (l0 : List S26) (a1 n : Int) (ha : 0 ≤ a1) (hn : n < a1) (w : World) (hG : Glob w) (hr0 : Kd.C k26 w A0 l0.length l0) (hc0 : l0.length ≤ c0) (h : op_May.f k l0 = some 0) (h2 : op_In.f k l0 = some n) :
    Calls Tryd.prog 33 #[.slice A0 l0.length c0, .int .i64 a1] w fun e2 w' => e2 = .returned (.tuple #[.int .i64 0, .int .i64 6]) ∧ Below w.heap.size w w' := by
  have HG := Aside0.mk hG
  have HR0 := Aside0.mk hr0
  have HC0 := Aside0.mk hc0
  have H := Aside0.mk h
  have H2 := Aside0.mk h2
  have d0 : decide (a1 < 0) = false := decide_eq_false (by omega)
  have d1 : decide (n < a1) = true := decide_eq_true hn
  clear hG hr0 hc0 h h2 ha hn
  go_enter Tryd.func33, Tryd.ntmps33
  go_wp2_with ((go_at_call 47; (with_reducible refine (op_May.calls k _ _ l0 0 _ (HG.out.below (below_alloc (Below.refl _ _) _)) (Kd.C_alloc HR0.out _) HC0.out H.out).mono ?_); rintro e2 w1 ⟨rfl, hb⟩; have HB1 := Aside0.mk hb; have cx := (blk_cell (blk_below (blk_new w _) hb) 0).trans (show _ = some (Value.int .i64 a1) from rfl); clear hb))
  have HBD := Aside0.mk (below_drew1 (below_step (below_alloc (Below.refl _ _) _) HB1.out))
  have BXD : Aside0 (w1.drew.heap[w.heap.size]? = some (.cells #[.int .i64 a1] 3 (0, 0))) := ⟨blk_drew (blk_below (blk_new w _) HB1.out)⟩
  go_region_with (first | (go_at_call 45; (with_reducible refine (op_In.calls k _ _ l0 n _ (HG.out.below HBD.out) (Kd.C_below HR0.out HBD.out) HC0.out H2.out).mono ?_); rintro e3 w2 ⟨rfl, hb⟩; have HB2 := Aside0.mk hb; have cx2 := (blk_cell (blk_below BXD.out hb) 0).trans (show _ = some (Value.int .i64 a1) from rfl); clear hb))
  all_goals (go_wp2; go_ret2; exact ⟨rfl, below_step HBD.out HB2.out⟩)
theorem keepsFrom_below {B : Nat} {W W' : World} (h : Below W.heap.size W W') : KeepsFrom B W W' := ⟨h.size, fun k o _ hk _ => (h.block k (Array.getElem?_eq_some_iff.1 hk).1).trans hk⟩
theorem steps_stops (n : Nat) (hn : 1 ≤ n) (Bs m : Nat) (A0 : Option Addr) (c0 : Nat) (l0 : List S26) (w W0 : World) (hG : Glob w) (hr0 : Kd.C k26 w A0 l0.length l0) (hok : stepsOk l0 = true) (hB0 : Below w.heap.size w W0) (hm : m ≤ W0.heap.size) (hbs : Bs < W0.heap.size)
    (hBs : W0.cell? ⟨Bs, 0, none⟩ = some (.slice A0 l0.length c0)) :
    SeqStopsK Fence.wide n Tryd.prog 87 #[.pointer (some ⟨Bs, 0, none⟩)] (fun x : St => #[encSt x]) (KpS w.heap.size m) (fun ys => ys = stepsL l0 0 0) (fun pre => pre <+: stepsL l0 0 0) (l0.length + 1) W0 := fun l J Jx W hW hJ _ hY h0 =>
  steps1_in n l Bs w.heap.size m hn A0 c0 l0 w rfl hG hr0 hok J Jx hY W hJ (Nat.le_trans hm hW.size) (below_step hB0 hW) ((hW.cell (p := ⟨Bs, 0, none⟩) hbs).trans hBs) h0
theorem whereS_snoc (gap : Int) : ∀ (pre : List St) (x : St) (a : Int), (∀ y ∈ pre, y.i ≤ gap) → whereS gap (pre ++ [x]) a = if x.i > gap then whereS gap pre a else (if x.s.f0 = 1 then wrap64 (x.o + mn x.s.f1 (wrap64 (gap - x.i))) else if x.s.f0 = 2 then wrap64 (x.o + outS x.s) else x.o)
  | [], x, a, _ => by simp [whereS]
  | y :: pre, x, a, h => by
    rw [List.cons_append, whereS, if_neg (Int.not_lt.2 (h y (by simp))), whereS_snoc gap pre x _ (fun z hz => h z (by simp [hz])), whereS, if_neg (Int.not_lt.2 (h y (by simp)))]
theorem whereS_stop (gap : Int) : ∀ (pre : List St) (x : St) (r : List St) (a : Int), (∀ y ∈ pre, y.i ≤ gap) → x.i > gap → whereS gap (pre ++ x :: r) a = whereS gap pre a
  | [], x, r, a, _, hx => by
    show (if x.i > gap then a else _) = a
    rw [if_pos hx]
  | y :: pre, x, r, a, h, hx => by
    rw [List.cons_append, whereS, if_neg (Int.not_lt.2 (h y (by simp))), whereS_stop gap pre x r _ (fun z hz => h z (by simp [hz])) hx]
    conv => rhs; rw [whereS, if_neg (Int.not_lt.2 (h y (by simp)))]
def NoPanic (Q : Exit → Act → World → Prop) : Exit → Act → World → Prop
  | .panic _, _, _ => False
  | .normal, a, w => Q .normal a w
  | .ret, a, w => Q .ret a w
  | .exit i, a, w => Q (.exit i) a w
  | .goto t, a, w => Q (.goto t) a w
  | .outgrown, a, w => Q .outgrown a w
theorem wp_quiet {F : Fence} {n : Nat} {c : Code} {Q : Exit → Act → World → Prop} {a : Act} {w : World} (h : c.wpIn F n Tryd.prog (NoPanic Q) a w) : c.wpIn F n Tryd.prog Q a w :=
  wpIn_mono h (fun e a w hq => by cases e <;> first | exact hq | exact hq.elim)
theorem box_below {W W' : World} {B : Nat} {t : TypeId} {v : Value} (h : Boxed W B t v) (hb : Below W.heap.size W W') : Boxed W' B t v := blk_below h hb
def Boxed5 (W : World) (B : Nat) (x : St) : Prop := W.heap[B]? = some (.cells #[.int .i64 x.s.f0, .int .i64 x.s.f1, .string x.s.f2, .int .i64 x.i, .int .i64 x.o] 90 (0, 0))
theorem boxed5_own {β : Type} (B : Nat) (x : St) : Own (fun (_ : β) W => Boxed5 W B x) := fun s X Y row hs hg hrow =>
  (hg.block B (Array.getElem?_eq_some_iff.1 hs).1 (fun e' => by obtain ⟨o, ho, hc⟩ := hrow B e'.symm; rw [show X.heap[B]? = _ from hs] at ho; cases ho; cases hc)).trans hs
def WhI (w : World) (bg ba : Nat) (gap : Int) (pre : List St) (W : World) : Prop :=
  ((Boxed W bg 3 (.int .i64 gap) ∧ Boxed W ba 3 (.int .i64 (whereS gap pre 0))) ∧ (∀ y ∈ pre, y.i ≤ gap)) ∧ Below w.heap.size w W
def WhX (w : World) (ba : Nat) (gap : Int) (c : Code) (pre : List St) (W : World) : Prop :=
  (c = .exit 0 ∧ ∃ ini x, pre = ini ++ [x] ∧ gap < x.i ∧ (∀ y ∈ ini, y.i ≤ gap) ∧ Boxed W ba 3 (.int .i64 (whereS gap ini 0))) ∧ Below w.heap.size w W
theorem WhI.own (w : World) (bg ba : Nat) (gap : Int) {B : Nat} (hB : w.heap.size ≤ B) : OwnFrom B (WhI w bg ba gap) :=
  OwnFrom.and (OwnFrom.and (OwnFrom.and (Own.from (boxed_own _ _ (fun _ => .int .i64 gap)) _) (Own.from (boxed_own _ _ (fun pre => .int .i64 (whereS gap pre 0))) _)) (ownFrom_pure _ _)) (ownFrom_below (Nat.le_refl _) hB)
theorem WhX.own (w : World) (ba : Nat) (gap : Int) (c : Code) {B : Nat} (hB : w.heap.size ≤ B) : OwnFrom B (WhX w ba gap c) := fun pre X Y row hs hg hr => by
  obtain ⟨⟨hc, ini, x, e1, e2, e3, b2⟩, hb⟩ := hs
  exact ⟨⟨hc, ini, x, e1, e2, e3, boxed_own ba 3 (fun (_ : Unit) => Value.int .i64 (whereS gap ini 0)) () X Y row b2 hg (fun r e => (hr r e).2)⟩, ownFrom_below (β := Unit) (Nat.le_refl _) hB () X Y row hb hg hr⟩
set_option maxRecDepth 100000 in
set_option maxHeartbeats 8000000 in
theorem place_Where_main (k : Nat) (A0 : Option Addr) (c0 : Nat) (l0 : List S26) (a1 n : Int) (ha : 0 ≤ a1) (hn : a1 ≤ n) (w : World) (hG : Glob w) (hr0 : Kd.C k26 w A0 l0.length l0) (hc0 : l0.length ≤ c0) (hok : stepsOk l0 = true) (h : op_May.f k l0 = some 0) (h2 : op_In.f k l0 = some n) :
    Calls Tryd.prog 33 #[.slice A0 l0.length c0, .int .i64 a1] w fun e2 w' => e2 = .returned (.tuple #[.int .i64 (whereS a1 (stepsL l0 0 0) 0), .int .i64 0]) ∧ Below w.heap.size w w' := by
  have HG := Aside0.mk hG
  have HR0 := Aside0.mk hr0
  have HC0 := Aside0.mk hc0
  have H := Aside0.mk h
  have H2 := Aside0.mk h2
  have HOK := Aside0.mk hok
  have d0 : decide (a1 < 0) = false := decide_eq_false (by omega)
  have d1 : decide (n < a1) = false := decide_eq_false (by omega)
  clear hG hr0 hc0 h h2 ha hn hok
  refine (callsIn_wide (n := 6)).1 ?_
  refine callsIn_of_wp_marks Tryd.func33 rfl trivial ?_ rfl
  refine wp_quiet (wpIn_wide.2 ?_)
  simp only [Tryd.ntmps33, List.size_toArray, List.length_cons, List.length_nil, Nat.reduceAdd, Nat.reduceSub, Array.replicate_succ, Array.replicate_zero, List.push_toArray, List.append_toArray, List.nil_append, List.cons_append]
  go_wp2_with ((go_at_call 47; (with_reducible refine (op_May.calls k _ _ l0 0 _ (HG.out.below (below_alloc (Below.refl _ _) _)) (Kd.C_alloc HR0.out _) HC0.out H.out).mono ?_); rintro e2 w1 ⟨rfl, hb⟩; have HB1 := Aside0.mk hb; have cx := (blk_cell (blk_below (blk_new w _) hb) 0).trans (show _ = some (Value.int .i64 a1) from rfl); clear hb))
  have HBD := Aside0.mk (below_drew1 (below_step (below_alloc (Below.refl _ _) _) HB1.out))
  have BXD : Aside0 (w1.drew.heap[w.heap.size]? = some (.cells #[.int .i64 a1] 3 (0, 0))) := ⟨blk_drew (blk_below (blk_new w _) HB1.out)⟩
  go_region_with (first | (go_at_call 45; (with_reducible refine (op_In.calls k _ _ l0 n _ (HG.out.below HBD.out) (Kd.C_below HR0.out HBD.out) HC0.out H2.out).mono ?_); rintro e3 w2 ⟨rfl, hb⟩; have HB2 := Aside0.mk hb; have cx2 := (blk_cell (blk_below BXD.out hb) 0).trans (show _ = some (Value.int .i64 a1) from rfl); clear hb))
  all_goals
    go_wp2_with (go_at_call 67; (with_reducible refine (steps.calls _ _ _ _).mono ?_); rintro e4 w4 ⟨rfl, rfl⟩)
    have HB3 := Aside0.mk (below_step HBD.out HB2.out)
    have BG2 : Aside0 (Boxed w2 w.heap.size 3 (.int .i64 a1)) := ⟨blk_below BXD.out HB2.out⟩
    have hsz : ((w2.alloc (.cells #[.int .i64 0] 3)).alloc (.cells #[.slice A0 l0.length c0] 27)).heap.size = w2.heap.size + 2 := by simp
    have BA2 := Aside0.mk ((Boxed.new w2 3 (.int .i64 0)).alloc (.cells #[.slice A0 l0.length c0] 27))
    have BG3 := Aside0.mk ((BG2.out.alloc (.cells #[.int .i64 0] 3)).alloc (.cells #[.slice A0 l0.length c0] 27))
    have BS3 := Boxed.new (w2.alloc (.cells #[.int .i64 0] 3)) 27 (.slice A0 l0.length c0)
    rw [World.size_alloc] at BS3
    have HB4 := Aside0.mk (below_alloc (below_alloc HB3.out (.cells #[.int .i64 0] 3)) (.cells #[.slice A0 l0.length c0] 27))
    have hgs := BG2.out.lt
    have hws := HB3.out.size
    obtain ⟨W0, hW0⟩ : ∃ W0, (w2.alloc (.cells #[.int .i64 0] 3)).alloc (.cells #[.slice A0 l0.length c0] 27) = W0 := ⟨_, rfl⟩
    rw [hW0] at BA2 BG3 BS3 HB4 hsz ⊢
    clear hW0 cx cx2 d0 d1
    refine (wpIn_wide (n := 6)).1 ?_
    refine wpIn_rangeFunc_ownH rfl (by omega) (gf := 87) (lb := #[.pointer (some ⟨w2.heap.size + 1, 0, none⟩)]) rfl trivial (enters_of Tryd.func87 (by kernel_rfl) rfl)
      (steps_stops 5 (by omega) (w2.heap.size + 1) (w2.heap.size + 2) A0 c0 l0 w W0 HG.out HR0.out HOK.out HB4.out (by omega) (by omega) BS3.cell) (fun h k => h.trans k) (KpS.put (by omega)) (Below.refl _ _) (fun _ => rfl)
      (WhI w w.heap.size w2.heap.size a1) (WhX w w2.heap.size a1) (WhI.own _ _ _ _ (by omega)) (fun c => WhX.own _ _ _ c (by omega)) ⟨⟨⟨BG3.out, BA2.out⟩, fun y hy => by cases hy⟩, HB4.out⟩
      (fun x a' W => ∃ Bx, w2.heap.size < Bx ∧ Boxed5 W Bx x ∧ a' = { tmps := #[.slice A0 l0.length c0, .int .i64 a1, undef, .pointer (some ⟨w.heap.size, 0, none⟩), .int .i64 0, .int .i64 0, .int .i64 0, .pointer (some ⟨w2.heap.size, 0, none⟩), .pointer (some ⟨Bx, 0, none⟩),
        .slice A0 l0.length c0, .int .i64 0, .int .i64 0, .bool false, undef, .int .i64 a1, .bool false, .bool false, .int .i64 a1, .slice A0 l0.length c0, .int .i64 n, .bool false, .bool false, .slice A0 l0.length c0, .func (.func 87) #[] #[.pointer (some ⟨w2.heap.size + 1, 0, none⟩)],
        encSt x, undef, undef, undef, undef, undef, undef, undef, undef, undef, undef, undef, undef, undef, undef, undef, undef, undef, undef, undef, undef, undef, undef, undef, undef, undef, undef, undef, undef, undef], defers := [] })
      (fun x a' _ X Y row hs hg hr => by obtain ⟨Bx, h1, h2, h3⟩ := hs; exact ⟨Bx, h1, boxed5_own Bx x () X Y row h2 hg (fun r e => (hr r e).2), h3⟩)
      ?assign ?body ?done ?stop
    case assign =>
      rintro l pre x W K ⟨⟨⟨bG, bA⟩, hP⟩, hB⟩ hK
      dsimp only [encSt] at hK ⊢
      gi_wp2
      exact hK _ _ ((KeepsOthers.alloc _ _).from _) (KpS.more (below_alloc (Below.refl _ _) _) hB.size) ⟨⟨⟨bG.alloc _, bA.alloc _⟩, hP⟩, below_alloc hB _⟩ ⟨W.heap.size, by have := bA.lt; omega, blk_new W _, rfl⟩
    case body =>
      rintro l pre x a' W hl ⟨r, hr⟩ ⟨⟨⟨bG, bA⟩, hP⟩, hB⟩ ⟨Bx, hBx, bX, rfl⟩ hlt
      have BG := Aside0.mk bG
      have BA := Aside0.mk bA
      have BX := Aside0.mk bX
      have PP := Aside0.mk hP
      have HBW := Aside0.mk hB
      have hbs := hB.size
      have cg := bG.cell
      have ca := bA.cell
      have fa := bA.frozen
      have cx0 := (blk_cell bX 0).trans (show _ = some (Value.int .i64 x.s.f0) from rfl)
      have cx1 := (blk_cell bX 1).trans (show _ = some (Value.int .i64 x.s.f1) from rfl)
      have cx2 := (blk_cell bX 2).trans (show _ = some (Value.string x.s.f2) from rfl)
      have cx3 := (blk_cell bX 3).trans (show _ = some (Value.int .i64 x.i) from rfl)
      have cx4 := (blk_cell bX 4).trans (show _ = some (Value.int .i64 x.o) from rfl)
      clear bG bA bX hP hB hr hlt
      dsimp only [encSt]
      by_cases c1 : x.i > a1
      · have d1 : decide (a1 < x.i) = true := decide_eq_true c1
        have C1 := Aside0.mk c1
        clear c1
        gi_wp2
        exact ⟨KeepsFrom.refl _ _, ⟨⟨rfl, pre, x, rfl, C1.out, PP.out, BA.out⟩, HBW.out⟩⟩
      · have d1 : decide (a1 < x.i) = false := decide_eq_false c1
        have P2 : Aside0 (∀ y ∈ pre ++ [x], y.i ≤ a1) := ⟨fun y hy => (List.mem_append.1 hy).elim (PP.out y) (fun e => by simp at e; subst e; exact Int.not_lt.1 c1)⟩
        have SN := Aside0.mk (whereS_snoc a1 pre x 0 PP.out)
        have C1 := Aside0.mk (Int.not_lt.1 c1)
        have BA1 := Aside0.mk (BA.out.set (.int .i64 x.o))
        have ca1 := BA1.out.cell
        have fa1 := BA1.out.frozen
        have BG1 := Aside0.mk (BG.out.other (B' := w2.heap.size) (by omega) (.int .i64 x.o))
        have cg1 := BG1.out.cell
        have BX1 : Aside0 (Boxed5 (W.setCell ⟨w2.heap.size, 0, none⟩ (.int .i64 x.o)) Bx x) := ⟨(Below.heap_setCell W ⟨w2.heap.size, 0, none⟩ _ Bx (by show Bx ≠ w2.heap.size; omega)).trans BX.out⟩
        have cy0 := (blk_cell BX1.out 0).trans (show _ = some (Value.int .i64 x.s.f0) from rfl)
        have cy1 := (blk_cell BX1.out 1).trans (show _ = some (Value.int .i64 x.s.f1) from rfl)
        have cy2 := (blk_cell BX1.out 2).trans (show _ = some (Value.string x.s.f2) from rfl)
        have cy3 := (blk_cell BX1.out 3).trans (show _ = some (Value.int .i64 x.i) from rfl)
        have cy4 := (blk_cell BX1.out 4).trans (show _ = some (Value.int .i64 x.o) from rfl)
        clear c1
        by_cases c2 : x.s.f0 = 1
        · have d2 : (x.s.f0 == 1) = true := by simp [c2]
          have C2 := Aside0.mk c2
          clear c2
          have fin : Aside0 (∀ z, mn x.s.f1 (wrap64 (a1 - x.i)) = z → ownPostG (w2.heap.size + 2) (KpS w.heap.size (w2.heap.size + 2)) (WhI w w.heap.size w2.heap.size a1) (WhX w w2.heap.size a1) (pre ++ [x]) W Exit.normal { tmps := #[], defers := [] } ((W.setCell ⟨w2.heap.size, 0, none⟩ (.int .i64 x.o)).setCell ⟨w2.heap.size, 0, none⟩ (.int .i64 (wrap64 (x.o + z))))) := ⟨by
            rintro z rfl
            refine ⟨((KeepsOthers.setCell _ _ _).trans (KeepsOthers.setCell _ _ _)).from _, (KpS.set _ _ _ (by omega) (by omega)).trans (KpS.set _ _ _ (by omega) (by omega)), ⟨⟨⟨BG1.out.other (by omega) _, ?_⟩, P2.out⟩, (HBW.out.setCell (p := ⟨w2.heap.size, 0, none⟩) (by show w.heap.size ≤ w2.heap.size; omega) _).setCell (p := ⟨w2.heap.size, 0, none⟩) (by show w.heap.size ≤ w2.heap.size; omega) _⟩⟩
            rw [SN.out, if_neg (Int.not_lt.2 C1.out), if_pos C2.out]
            exact BA1.out.set _⟩
          gi_wp2
          · exact fin.out _ (by unfold mn; split <;> omega)
          · exact fin.out _ (by unfold mn; split <;> omega)
        · have d2 : (x.s.f0 == 1) = false := by simp [c2]
          have C2 := Aside0.mk c2
          clear c2
          by_cases c3 : x.s.f0 = 2
          · have d3 : (x.s.f0 == 2) = true := by simp [c3]
            have C3 := Aside0.mk c3
            clear c3
            have hmix : Tryd.prog.follows .mixedOrders = true := by kernel_rfl
            have HXO := Aside0.mk (some_out x.h)
            have hx2 : 1 ≤ 6 - 1 - 1 := by decide
            have BAD : Aside0 (Boxed ((W.setCell ⟨w2.heap.size, 0, none⟩ (.int .i64 x.o)).drew) w2.heap.size 3 (.int .i64 x.o)) := ⟨blk_drew BA1.out⟩
            have BGD : Aside0 (Boxed ((W.setCell ⟨w2.heap.size, 0, none⟩ (.int .i64 x.o)).drew) w.heap.size 3 (.int .i64 a1)) := ⟨blk_drew BG1.out⟩
            have HBD1 : Aside0 (Below w.heap.size w ((W.setCell ⟨w2.heap.size, 0, none⟩ (.int .i64 x.o)).drew)) := ⟨below_drew1 (HBW.out.setCell (p := ⟨w2.heap.size, 0, none⟩) (by show w.heap.size ≤ w2.heap.size; omega) _)⟩
            gi_wp2
            gi_region_with_o (refine ⟨trivial, ?_⟩; gi_at_call 49; (with_reducible refine (CallsIn.inRound l (callsIn_wide.2 (span_Out.calls _ _ _ _ _ (HG.out.below HBD1.out) HXO.out))).mono ?_); rintro e5 W3 ⟨rfl, hb⟩; have HB5 := Aside0.mk hb; have BA5 := Aside0.mk (box_below BAD.out hb); have ca5 := BA5.out.cell; have fa5 := BA5.out.frozen; clear hb)
            all_goals
              change KeepsFrom _ _ _ ∧ KpS _ _ _ _ ∧ WhI _ _ _ _ _ _
              have hkp : KpS w.heap.size (w2.heap.size + 2) W W3 := (KpS.set W w2.heap.size (.int .i64 x.o) (by omega) (by omega)).trans (KpS.more (Below.trans (below_drew1 (Below.refl _ _)) HB5.out) HBD1.out.size)
              have hkf : KeepsFrom W0.heap.size W W3 := ((KeepsOthers.setCell W ⟨w2.heap.size, 0, none⟩ (.int .i64 x.o)).from _).trans (keepsFrom_below (Below.trans (below_drew1 (Below.refl _ _)) HB5.out))
              refine ⟨hkf.trans ((KeepsOthers.setCell _ _ _).from _), hkp.trans (KpS.set _ _ _ (by omega) (by omega)), ⟨⟨⟨(box_below BGD.out HB5.out).other (by omega) _, ?_⟩, P2.out⟩, (below_step HBD1.out HB5.out).setCell (p := ⟨w2.heap.size, 0, none⟩) (by show w.heap.size ≤ w2.heap.size; omega) _⟩⟩
              rw [SN.out, if_neg (Int.not_lt.2 C1.out), if_neg C2.out, if_pos C3.out, ← i64_w]
              exact BA5.out.set _
          · have d3 : (x.s.f0 == 2) = false := by simp [c3]
            have C3 := Aside0.mk c3
            clear c3
            gi_wp2
            refine ⟨(KeepsOthers.setCell _ _ _).from _, KpS.set _ _ _ (by omega) (by omega), ⟨⟨⟨BG1.out, ?_⟩, P2.out⟩, HBW.out.setCell (p := ⟨w2.heap.size, 0, none⟩) (by show w.heap.size ≤ w2.heap.size; omega) _⟩⟩
            rw [SN.out, if_neg (Int.not_lt.2 C1.out), if_neg C2.out, if_neg C3.out]
            exact BA1.out
    case done =>
      rintro D zs W hD rfl ⟨⟨⟨bG, bA⟩, hP⟩, hB⟩ hK
      have ca := bA.cell
      have HBW := Aside0.mk hB
      clear bG bA hP hB
      go_wp2
      show bodyPostM _ _ _ _ _ Exit.ret _ _
      refine ⟨by simp, .inl ⟨_, _, rfl, run_takeDeferred hK, ?_⟩⟩
      exact ⟨.tuple #[.int .i64 (whereS a1 (stepsL l0 0 0) 0), .int .i64 0], by simp [results, Tryd.results33, go_sem], rfl, HBW.out.trans (belowK_b (w := w) (Nat.le_refl _) W D _ _ (by omega) hK rfl rfl)⟩
    case stop =>
      rintro D c pre W hD ⟨r, hpre⟩ ⟨⟨rfl, ini, x, rfl, hx, hi, bA⟩, hB⟩ hK
      have ca := bA.cell
      have HBW := Aside0.mk hB
      have HW : Aside0 (whereS a1 (stepsL l0 0 0) 0 = whereS a1 ini 0) := ⟨by rw [← hpre, List.append_assoc]; exact whereS_stop a1 ini x r 0 hi hx⟩
      rw [← HW.out] at ca
      clear bA hi hB hpre
      gi_wp2
      go_wp2
      show bodyPostM _ _ _ _ _ Exit.ret _ _
      refine ⟨by simp, .inl ⟨_, _, rfl, run_takeDeferred hK, ?_⟩⟩
      exact ⟨.tuple #[.int .i64 (whereS a1 (stepsL l0 0 0) 0), .int .i64 0], by simp [results, Tryd.results33, go_sem], rfl, HBW.out.trans (belowK_b (w := w) (Nat.le_refl _) W D _ _ (by omega) hK rfl rfl)⟩
theorem place_Where.calls (k : Nat) (A0 : Option Addr) (c0 : Nat) (l0 : List S26) (a1 r1 r2 : Int) (w : World) (hG : Glob w) (hr0 : Kd.C k26 w A0 l0.length l0) (hc0 : l0.length ≤ c0) (h : place_Where.f k l0 a1 = some (r1, r2)) :
    Calls Tryd.prog 33 #[.slice A0 l0.length c0, .int .i64 a1] w fun e w' => e = .returned (.tuple #[.int .i64 r1, .int .i64 r2]) ∧ Below w.heap.size w w' := by
  unfold place_Where.f at h
  split at h
  · next hok =>
    obtain ⟨e, he, h⟩ := Option.bind_eq_some_iff.1 h
    split at h
    · next h0 =>
      subst h0
      split at h
      · next hlow =>
        obtain ⟨rfl, rfl⟩ : 0 = r1 ∧ 6 = r2 := by simpa using h
        exact place_Where_low k A0 c0 l0 a1 hlow w hG hr0 hc0 he
      · next hlow =>
        obtain ⟨n, hn, h⟩ := Option.bind_eq_some_iff.1 h
        split at h
        · next hhi =>
          obtain ⟨rfl, rfl⟩ : 0 = r1 ∧ 6 = r2 := by simpa using h
          exact place_Where_high k A0 c0 l0 a1 n (by omega) (by omega) w hG hr0 hc0 he hn
        · next hhi =>
          obtain ⟨rfl, rfl⟩ : whereS a1 (stepsL l0 0 0) 0 = r1 ∧ 0 = r2 := by simpa using h
          exact place_Where_main k A0 c0 l0 a1 n (by omega) (by omega) w hG hr0 hc0 hok he hn
    · next h0 =>
      obtain ⟨rfl, rfl⟩ : 0 = r1 ∧ e = r2 := by simpa using h
      exact place_Where_bad k A0 c0 l0 a1 e h0 w hG hr0 hc0 he
  · cases h
end Go.Proofs.YtkefbljogjcodaaDoor.F
end
section
namespace Go.Proofs.YtkefbljogjcodaaDoor.F
open Go.RowKit Go.Proofs.YtkefbljogjcodaaDoorW.PrintWords Go.Proofs.YtkefbljogjcodaaDoorW.PrintLast Go.Proofs.YtkefbljogjcodaaDoorW.PrintMore
set_option linter.unusedVariables false
set_option linter.unusedSimpArgs false
open Go.Shelf
attribute [local go_sem] Oper.semAt_some max2_int min2_int max_two min_two
theorem three_new (w : World) (t1 t2 t3 : TypeId) (v1 v2 v3 : Value) : Boxed (((w.alloc (.cells #[v1] t1)).alloc (.cells #[v2] t2)).alloc (.cells #[v3] t3)) w.heap.size t1 v1 ∧ Boxed (((w.alloc (.cells #[v1] t1)).alloc (.cells #[v2] t2)).alloc (.cells #[v3] t3)) (w.heap.size + 1) t2 v2 ∧
    Boxed (((w.alloc (.cells #[v1] t1)).alloc (.cells #[v2] t2)).alloc (.cells #[v3] t3)) (w.heap.size + 2) t3 v3 ∧ Below w.heap.size w (((w.alloc (.cells #[v1] t1)).alloc (.cells #[v2] t2)).alloc (.cells #[v3] t3)) := by
  refine ⟨((Boxed.new w t1 v1).alloc _).alloc _, ?_, ?_, below_alloc (below_alloc (below_alloc (Below.refl _ _) _) _) _⟩
  · have := (Boxed.new (w.alloc (.cells #[v1] t1)) t2 v2).alloc (.cells #[v3] t3)
    rwa [World.size_alloc] at this
  · have := Boxed.new ((w.alloc (.cells #[v1] t1)).alloc (.cells #[v2] t2)) t3 v3
    rwa [World.size_alloc, World.size_alloc] at this
structure LsB (w : World) (gap v e : Int) (W : World) : Prop where
  g : Boxed W w.heap.size 3 (.int .i64 gap)
  v : Boxed W (w.heap.size + 1) 3 (.int .i64 v)
  e : Boxed W (w.heap.size + 2) 28 (.int .i64 e)
  b : Below w.heap.size w W
theorem LsB.new (w : World) (gap : Int) : LsB w gap 0 0 (((w.alloc (.cells #[.int .i64 gap] 3)).alloc (.cells #[.int .i64 0] 3)).alloc (.cells #[.int .i64 0] 28)) := by
  obtain ⟨h1, h2, h3, h4⟩ := three_new w 3 3 28 (.int .i64 gap) (.int .i64 0) (.int .i64 0)
  exact ⟨h1, h2, h3, h4⟩
theorem LsB.more {w W W' : World} {gap v e : Int} (h : LsB w gap v e W) (hb : Below W.heap.size W W') : LsB w gap v e W' := ⟨box_below h.g hb, box_below h.v hb, box_below h.e hb, below_step h.b hb⟩
theorem LsB.drew {w W : World} {gap v e : Int} (h : LsB w gap v e W) : LsB w gap v e W.drew := ⟨blk_drew h.g, blk_drew h.v, blk_drew h.e, below_drew1 h.b⟩
theorem LsB.setV {w W : World} {gap v e : Int} (h : LsB w gap v e W) (z : Int) : LsB w gap z e (W.setCell ⟨w.heap.size + 1, 0, none⟩ (.int .i64 z)) :=
  ⟨h.g.other (by omega) _, h.v.set _, h.e.other (by omega) _, h.b.setCell (p := ⟨w.heap.size + 1, 0, none⟩) (by show w.heap.size ≤ w.heap.size + 1; omega) _⟩
theorem LsB.setE {w W : World} {gap v e : Int} (h : LsB w gap v e W) (z : Int) : LsB w gap v z (W.setCell ⟨w.heap.size + 2, 0, none⟩ (.int .i64 z)) :=
  ⟨h.g.other (by omega) _, h.v.other (by omega) _, h.e.set _, h.b.setCell (p := ⟨w.heap.size + 2, 0, none⟩) (by show w.heap.size ≤ w.heap.size + 2; omega) _⟩
theorem LsB.cells {w W : World} {gap v e : Int} (h : LsB w gap v e W) : W.cell? ⟨w.heap.size, 0, none⟩ = some (.int .i64 gap) ∧ W.cell? ⟨w.heap.size + 1, 0, none⟩ = some (.int .i64 v) ∧ W.cell? ⟨w.heap.size + 2, 0, none⟩ = some (.int .i64 e) ∧ W.frozen? ⟨w.heap.size + 1, 0, none⟩ = false ∧ W.frozen? ⟨w.heap.size + 2, 0, none⟩ = false :=
  ⟨h.g.cell, h.v.cell, h.e.cell, h.v.frozen, h.e.frozen⟩
set_option maxHeartbeats 4000000 in
theorem place_Least_bad (k : Nat) (A0 : Option Addr) (c0 : Nat) (l0 : List S26) (a1 e : Int) (he : e ≠ 0) (w : World) (hG : Glob w) (hr0 : Kd.C k26 w A0 l0.length l0) (hc0 : l0.length ≤ c0) (h : op_May.f k l0 = some e) :
    Calls Tryd.prog 76 #[.slice A0 l0.length c0, .int .i64 a1] w fun e2 w' => e2 = .returned (.tuple #[.int .i64 0, .int .i64 e]) ∧ Below w.heap.size w w' := by
  have HG := Aside0.mk hG
  have HR0 := Aside0.mk hr0
  have HC0 := Aside0.mk hc0
  have H := Aside0.mk h
  have d0 : (e != 0) = true := by simp [he]
  have B0 := Aside0.mk (LsB.new w a1)
  clear hG hr0 hc0 h he
  go_enter Tryd.func76, Tryd.ntmps76
  go_wp2_with ((go_at_call 47; (with_reducible refine (op_May.calls k _ _ l0 e _ (HG.out.below B0.out.b) (Kd.C_below HR0.out B0.out.b) HC0.out H.out).mono ?_); rintro e2 w1 ⟨rfl, hb⟩; have B1 := Aside0.mk (B0.out.more hb); obtain ⟨q0, q1, q2, q3, q4⟩ := B1.out.cells; clear hb))
  have B2 := Aside0.mk ((B1.out.setV 0).setE e)
  obtain ⟨p0, p1, p2, p3, p4⟩ := B2.out.cells
  exact bodyPost_ret (v := .tuple #[.int .i64 0, .int .i64 e]) (by simp [results, Tryd.results76, Tryd.f76, go_sem, p1, p2]) rfl ⟨rfl, B2.out.b⟩
set_option maxHeartbeats 4000000 in
theorem place_Least_low (k : Nat) (A0 : Option Addr) (c0 : Nat) (l0 : List S26) (a1 : Int) (ha : a1 < 0) (w : World) (hG : Glob w) (hr0 : Kd.C k26 w A0 l0.length l0) (hc0 : l0.length ≤ c0) (h : op_May.f k l0 = some 0) :
    Calls Tryd.prog 76 #[.slice A0 l0.length c0, .int .i64 a1] w fun e2 w' => e2 = .returned (.tuple #[.int .i64 0, .int .i64 6]) ∧ Below w.heap.size w w' := by
  have HG := Aside0.mk hG
  have HR0 := Aside0.mk hr0
  have HC0 := Aside0.mk hc0
  have H := Aside0.mk h
  have d0 : decide (a1 < 0) = true := decide_eq_true ha
  have B0 := Aside0.mk (LsB.new w a1)
  clear hG hr0 hc0 h ha
  go_enter Tryd.func76, Tryd.ntmps76
  go_wp2_with ((go_at_call 47; (with_reducible refine (op_May.calls k _ _ l0 0 _ (HG.out.below B0.out.b) (Kd.C_below HR0.out B0.out.b) HC0.out H.out).mono ?_); rintro e2 w1 ⟨rfl, hb⟩; have B1 := Aside0.mk (B0.out.more hb); obtain ⟨q0, q1, q2, q3, q4⟩ := B1.out.cells; clear hb))
  go_region
  go_wp2
  have B2 := Aside0.mk (((B1.out.setV 0).setE 6).drew)
  obtain ⟨p0, p1, p2, p3, p4⟩ := B2.out.cells
  exact bodyPost_ret (v := .tuple #[.int .i64 0, .int .i64 6]) (by simp [results, Tryd.results76, Tryd.f76, go_sem, p1, p2]) rfl ⟨rfl, B2.out.b⟩
set_option maxHeartbeats 4000000 in
theorem place_Least_high (k : Nat) (A0 : Option Addr) (c0 : Nat) (l0 : List S26) (a1 n : Int) (ha : 0 ≤ a1) (hn : n < a1) (w : World) (hG : Glob w) (hr0 : Kd.C k26 w A0 l0.length l0) (hc0 : l0.length ≤ c0) (h : op_May.f k l0 = some 0) (h2 : op_Out.f k l0 = some n) :
    Calls Tryd.prog 76 #[.slice A0 l0.length c0, .int .i64 a1] w fun e2 w' => e2 = .returned (.tuple #[.int .i64 0, .int .i64 6]) ∧ Below w.heap.size w w' := by
  have HG := Aside0.mk hG
  have HR0 := Aside0.mk hr0
  have HC0 := Aside0.mk hc0
  have H := Aside0.mk h
  have H2 := Aside0.mk h2
  have d0 : decide (a1 < 0) = false := decide_eq_false (by omega)
  have d1 : decide (n < a1) = true := decide_eq_true hn
  have B0 := Aside0.mk (LsB.new w a1)
  clear hG hr0 hc0 h h2 ha hn
  go_enter Tryd.func76, Tryd.ntmps76
  go_wp2_with ((go_at_call 47; (with_reducible refine (op_May.calls k _ _ l0 0 _ (HG.out.below B0.out.b) (Kd.C_below HR0.out B0.out.b) HC0.out H.out).mono ?_); rintro e2 w1 ⟨rfl, hb⟩; have B1 := Aside0.mk (B0.out.more hb); obtain ⟨q0, q1, q2, q3, q4⟩ := B1.out.cells; clear hb))
  have BD := Aside0.mk B1.out.drew
  go_region_with (first | (go_at_call 32; (with_reducible refine (op_Out.calls k _ _ l0 n _ (HG.out.below BD.out.b) (Kd.C_below HR0.out BD.out.b) HC0.out H2.out).mono ?_); rintro e3 w2 ⟨rfl, hb⟩; have B2 := Aside0.mk (BD.out.more hb); obtain ⟨r0, r1, r2, r3, r4⟩ := B2.out.cells; clear hb))
  all_goals
    go_wp2
    have B3 := Aside0.mk ((B2.out.setV 0).setE 6)
    obtain ⟨p0, p1, p2, p3, p4⟩ := B3.out.cells
    exact bodyPost_ret (v := .tuple #[.int .i64 0, .int .i64 6]) (by simp [results, Tryd.results76, Tryd.f76, go_sem, p1, p2]) rfl ⟨rfl, B3.out.b⟩
theorem leastS_stop (gap : Int) : ∀ (pre : List St) (x : St) (r : List St), (∀ y ∈ pre, wrap64 (y.o + outS y.s) < gap) → ¬ wrap64 (x.o + outS x.s) < gap → leastS gap (pre ++ x :: r) = if x.s.f0 = 1 then wrap64 (x.i + mx (wrap64 (gap - x.o)) 0) else x.i
  | [], x, r, _, hx => by
    show (if wrap64 (x.o + outS x.s) < gap then _ else _) = _
    rw [if_neg hx]
  | y :: pre, x, r, h, hx => by
    show (if wrap64 (y.o + outS y.s) < gap then _ else _) = _
    rw [if_pos (h y (by simp))]
    exact leastS_stop gap pre x r (fun z hz => h z (by simp [hz])) hx
theorem leastS_all (gap : Int) : ∀ (pre : List St), (∀ y ∈ pre, wrap64 (y.o + outS y.s) < gap) → leastS gap pre = 0
  | [], _ => rfl
  | y :: pre, h => by
    show (if wrap64 (y.o + outS y.s) < gap then _ else _) = _
    rw [if_pos (h y (by simp)), leastS_all gap pre (fun z hz => h z (by simp [hz]))]
def LsI (w : World) (gap : Int) (pre : List St) (W : World) : Prop := LsB w gap 0 0 W ∧ (∀ y ∈ pre, wrap64 (y.o + outS y.s) < gap)
def LsX (w : World) (gap : Int) (c : Code) (pre : List St) (W : World) : Prop := c = .ret ∧ ∃ ini x, pre = ini ++ [x] ∧ (∀ y ∈ ini, wrap64 (y.o + outS y.s) < gap) ∧ ¬ wrap64 (x.o + outS x.s) < gap ∧ LsB w gap (if x.s.f0 = 1 then wrap64 (x.i + mx (wrap64 (gap - x.o)) 0) else x.i) 0 W
theorem LsB.own {β : Type} (w : World) (gap v e : Int) {B : Nat} (hB : w.heap.size ≤ B) : OwnFrom B (fun (_ : β) W => LsB w gap v e W) := fun s X Y row hs hg hr =>
  ⟨boxed_own w.heap.size 3 (fun (_ : Unit) => Value.int .i64 gap) () X Y row hs.g hg (fun r e => (hr r e).2), boxed_own (w.heap.size + 1) 3 (fun (_ : Unit) => Value.int .i64 v) () X Y row hs.v hg (fun r e => (hr r e).2), boxed_own (w.heap.size + 2) 28 (fun (_ : Unit) => Value.int .i64 e) () X Y row hs.e hg (fun r e => (hr r e).2), ownFrom_below (β := Unit) (Nat.le_refl _) hB () X Y row hs.b hg hr⟩
theorem LsI.own (w : World) (gap : Int) {B : Nat} (hB : w.heap.size ≤ B) : OwnFrom B (LsI w gap) := OwnFrom.and (LsB.own w gap 0 0 hB) (ownFrom_pure _ _)
theorem LsX.own (w : World) (gap : Int) (c : Code) {B : Nat} (hB : w.heap.size ≤ B) : OwnFrom B (LsX w gap c) := fun pre X Y row hs hg hr => by
  obtain ⟨hc, ini, x, e1, e2, e3, hb⟩ := hs
  exact ⟨hc, ini, x, e1, e2, e3, LsB.own (β := Unit) w gap _ 0 hB () X Y row hb hg hr⟩
theorem LsB.bounds {w W : World} {gap v e : Int} (h : LsB w gap v e W) : w.heap.size + 2 < W.heap.size := h.e.lt
set_option maxRecDepth 100000 in
set_option maxHeartbeats 8000000 in
theorem place_Least_main (k : Nat) (A0 : Option Addr) (c0 : Nat) (l0 : List S26) (a1 n : Int) (ha : 0 ≤ a1) (hn : a1 ≤ n) (w : World) (hG : Glob w) (hr0 : Kd.C k26 w A0 l0.length l0) (hc0 : l0.length ≤ c0) (hok : stepsOk l0 = true) (h : op_May.f k l0 = some 0) (h2 : op_Out.f k l0 = some n) :
    Calls Tryd.prog 76 #[.slice A0 l0.length c0, .int .i64 a1] w fun e2 w' => e2 = .returned (.tuple #[.int .i64 (leastS a1 (stepsL l0 0 0)), .int .i64 0]) ∧ Below w.heap.size w w' := by
  have HG := Aside0.mk hG
  have HR0 := Aside0.mk hr0
  have HC0 := Aside0.mk hc0
  have H := Aside0.mk h
  have H2 := Aside0.mk h2
  have HOK := Aside0.mk hok
  have d0 : decide (a1 < 0) = false := decide_eq_false (by omega)
  have d1 : decide (n < a1) = false := decide_eq_false (by omega)
  have B0 := Aside0.mk (LsB.new w a1)
  clear hG hr0 hc0 h h2 ha hn hok
  refine (callsIn_wide (n := 6)).1 ?_
  refine callsIn_of_wp_marks Tryd.func76 rfl trivial ?_ rfl
  refine wp_quiet (wpIn_wide.2 ?_)
  simp only [Tryd.ntmps76, List.size_toArray, List.length_cons, List.length_nil, Nat.reduceAdd, Nat.reduceSub, Array.replicate_succ, Array.replicate_zero, List.push_toArray, List.append_toArray, List.nil_append, List.cons_append]
  go_wp2_with ((go_at_call 47; (with_reducible refine (op_May.calls k _ _ l0 0 _ (HG.out.below B0.out.b) (Kd.C_below HR0.out B0.out.b) HC0.out H.out).mono ?_); rintro e2 w1 ⟨rfl, hb⟩; have B1 := Aside0.mk (B0.out.more hb); obtain ⟨q0, q1, q2, q3, q4⟩ := B1.out.cells; clear hb))
  have BD := Aside0.mk B1.out.drew
  rename_i K1 hK1
  have key : ∀ w2 : World, Aside0 (LsB w a1 0 0 w2) → K1
      { tmps := #[.slice A0 l0.length c0, .int .i64 a1, undef, .pointer (some ⟨w.heap.size, 0, none⟩), .pointer (some ⟨w.heap.size + 1, 0, none⟩), .pointer (some ⟨w.heap.size + 1 + 1, 0, none⟩), .int .i64 0, undef,
        .slice A0 l0.length c0, .int .i64 0, .int .i64 0, .bool false, undef, .int .i64 a1, .bool false, .bool false, .int .i64 a1, .slice A0 l0.length c0, .int .i64 n, .bool false, .bool false, undef, undef,
        undef, undef, undef, undef, undef, undef, undef, undef, undef, undef, undef, undef, undef, undef, undef, undef, undef, undef, undef, undef, undef, undef, undef], defers := [] } w2 := by
    intro w2 B2
    refine hK1 _ _ ?_
    clear hK1 K1
    obtain ⟨r0, r1, r2, r3, r4⟩ := B2.out.cells
    go_wp2_with (go_at_call 67; (with_reducible refine (steps.calls _ _ _ _).mono ?_); rintro e4 w4 ⟨rfl, rfl⟩)
    have BS3 := Boxed.new w2 27 (.slice A0 l0.length c0)
    have B3 := Aside0.mk (B2.out.more (below_alloc (Below.refl _ _) (.cells #[.slice A0 l0.length c0] 27)))
    have hsz : (w2.alloc (.cells #[.slice A0 l0.length c0] 27)).heap.size = w2.heap.size + 1 := by simp
    have hgs := B2.out.bounds
    obtain ⟨W0, hW0⟩ : ∃ W0, w2.alloc (.cells #[.slice A0 l0.length c0] 27) = W0 := ⟨_, rfl⟩
    rw [hW0] at BS3 B3 hsz ⊢
    clear hW0 q0 q1 q2 q3 q4 r0 r1 r2 r3 r4 d0 d1
    refine (wpIn_wide (n := 6)).1 ?_
    refine wpIn_rangeFunc_ownH rfl (by omega) (gf := 87) (lb := #[.pointer (some ⟨w2.heap.size, 0, none⟩)]) rfl trivial (enters_of Tryd.func87 (by kernel_rfl) rfl)
      (steps_stops 5 (by omega) w2.heap.size (w2.heap.size + 1) A0 c0 l0 w W0 HG.out HR0.out HOK.out B3.out.b (by omega) (by omega) BS3.cell) (fun h k => h.trans k) (KpS.put (by omega)) (Below.refl _ _) (fun _ => rfl)
      (LsI w a1) (LsX w a1) (LsI.own _ _ (by omega)) (fun c => LsX.own _ _ c (by omega)) ⟨B3.out, fun y hy => by cases hy⟩
      (fun x a' W => ∃ Bx, w.heap.size + 2 < Bx ∧ Boxed5 W Bx x ∧ a' = { tmps := #[.slice A0 l0.length c0, .int .i64 a1, undef, .pointer (some ⟨w.heap.size, 0, none⟩), .pointer (some ⟨w.heap.size + 1, 0, none⟩), .pointer (some ⟨w.heap.size + 1 + 1, 0, none⟩), .int .i64 0, .pointer (some ⟨Bx, 0, none⟩),
        .slice A0 l0.length c0, .int .i64 0, .int .i64 0, .bool false, undef, .int .i64 a1, .bool false, .bool false, .int .i64 a1, .slice A0 l0.length c0, .int .i64 n, .bool false, .bool false, .slice A0 l0.length c0, .func (.func 87) #[] #[.pointer (some ⟨w2.heap.size, 0, none⟩)],
        encSt x, undef, undef, undef, undef, undef, undef, undef, undef, undef, undef, undef, undef, undef, undef, undef, undef, undef, undef, undef, undef, undef, undef], defers := [] })
      (fun x a' _ X Y row hs hg hr => by obtain ⟨Bx, h1, h2, h3⟩ := hs; exact ⟨Bx, h1, boxed5_own Bx x () X Y row h2 hg (fun r e => (hr r e).2), h3⟩)
      ?assign ?body ?done ?stop
    case assign =>
      rintro l pre x W K ⟨hB, hP⟩ hK
      dsimp only [encSt] at hK ⊢
      gi_wp2
      exact hK _ _ ((KeepsOthers.alloc _ _).from _) (KpS.more (below_alloc (Below.refl _ _) _) hB.b.size) ⟨hB.more (below_alloc (Below.refl _ _) _), hP⟩ ⟨W.heap.size, hB.bounds, blk_new W _, rfl⟩
    case body =>
      rintro l pre x a' W hl ⟨r, hr⟩ ⟨hB, hP⟩ ⟨Bx, hBx, bX, rfl⟩ hlt
      have BB := Aside0.mk hB
      have PP := Aside0.mk hP
      have hbs := hB.b.size
      have hmix : Tryd.prog.follows .mixedOrders = true := by kernel_rfl
      have HXO := Aside0.mk (some_out x.h)
      have hx2 : 1 ≤ 6 - 1 - 1 := by decide
      have BBD := Aside0.mk hB.drew
      have BXD : Aside0 (Boxed5 W.drew Bx x) := ⟨blk_drew bX⟩
      obtain ⟨q0, q1, q2, q3, q4⟩ := hB.cells
      have cx0 := (blk_cell bX 0).trans (show _ = some (Value.int .i64 x.s.f0) from rfl)
      have cx1 := (blk_cell bX 1).trans (show _ = some (Value.int .i64 x.s.f1) from rfl)
      have cx2 := (blk_cell bX 2).trans (show _ = some (Value.string x.s.f2) from rfl)
      have cx3 := (blk_cell bX 3).trans (show _ = some (Value.int .i64 x.i) from rfl)
      have cx4 := (blk_cell bX 4).trans (show _ = some (Value.int .i64 x.o) from rfl)
      clear bX hP hB hr hlt
      dsimp only [encSt]
      gi_wp2
      rename_i Ka hKa Kb hKb
      have key : ∀ W3 : World, Aside0 (LsB w a1 0 0 W3) → Aside0 (Boxed5 W3 Bx x) → Aside0 (Below W.drew.heap.size W.drew W3) → ∀ bb : Bool, Aside0 (bb = decide (IntKind.i64.wrap (x.o + outS x.s) < a1)) → Kb
        { tmps := #[.slice A0 l0.length c0, .int .i64 a1, undef, .pointer (some ⟨w.heap.size, 0, none⟩), .pointer (some ⟨w.heap.size + 1, 0, none⟩), .pointer (some ⟨w.heap.size + 1 + 1, 0, none⟩), .int .i64 0, .pointer (some ⟨Bx, 0, none⟩),
        .slice A0 l0.length c0, .int .i64 0, .int .i64 0, .bool false, undef, .int .i64 a1, .bool false, .bool false, .int .i64 a1, .slice A0 l0.length c0, .int .i64 n, .bool false, .bool false, .slice A0 l0.length c0, .func (.func 87) #[] #[.pointer (some ⟨w2.heap.size, 0, none⟩)],
        .agg #[.int .i64 x.s.f0, .int .i64 x.s.f1, .string x.s.f2, .int .i64 x.i, .int .i64 x.o], .pointer (some ⟨Bx, 4, none⟩), .int .i64 x.o, .pointer (some ⟨Bx, 0, none⟩), .agg #[.int .i64 x.s.f0, .int .i64 x.s.f1, .string x.s.f2], .int .i64 (outS x.s), .int .i64 (IntKind.i64.wrap (x.o + outS x.s)), .int .i64 a1, .bool bb,
        undef, undef, undef, undef, undef, undef, undef, undef, undef, undef, undef, undef, undef, undef], defers := [] } W3 := by
        intro W3 B5 BX5 HB5 bb HBB
        refine hKb _ _ ?_
        clear hKb Kb cx0 cx1 cx2 cx3 cx4 q0 q1 q2 q3 q4
        obtain ⟨r0, r1, r2, r3, r4⟩ := B5.out.cells
        have cx0 := (blk_cell BX5.out 0).trans (show _ = some (Value.int .i64 x.s.f0) from rfl)
        have cx3 := (blk_cell BX5.out 3).trans (show _ = some (Value.int .i64 x.i) from rfl)
        have cx4 := (blk_cell BX5.out 4).trans (show _ = some (Value.int .i64 x.o) from rfl)
        have hkp : Aside0 (KpS w.heap.size (w2.heap.size + 1) W W3) := ⟨KpS.more (Below.trans (below_drew1 (Below.refl _ _)) HB5.out) hbs⟩
        have hkf : Aside0 (KeepsFrom W0.heap.size W W3) := ⟨keepsFrom_below (Below.trans (below_drew1 (Below.refl _ _)) HB5.out)⟩
        have fin : Aside0 (¬ wrap64 (x.o + outS x.s) < a1 → ∀ z, (if x.s.f0 = 1 then wrap64 (x.i + mx (wrap64 (a1 - x.o)) 0) else x.i) = z → ownPostG (w2.heap.size + 1) (KpS w.heap.size (w2.heap.size + 1)) (LsI w a1) (LsX w a1) (pre ++ [x]) W Exit.ret { tmps := #[], defers := [] } ((W3.setCell ⟨w.heap.size + 1, 0, none⟩ (.int .i64 z)).setCell ⟨w.heap.size + 1 + 1, 0, none⟩ (.int .i64 0))) := ⟨by
          rintro hc z rfl
          rw [← hsz]
          exact ⟨(hkf.out.trans ((KeepsOthers.setCell _ _ _).from _)).trans ((KeepsOthers.setCell _ _ _).from _), rfl, pre, x, rfl, PP.out, hc, (B5.out.setV _).setE 0⟩⟩
        cases bb with
        | true =>
          have P2 : Aside0 (∀ y ∈ pre ++ [x], wrap64 (y.o + outS y.s) < a1) := ⟨fun y hy => (List.mem_append.1 hy).elim (PP.out y) (fun e => by
            simp at e
            subst e
            have := HBB.out
            rw [i64_w] at this
            exact of_decide_eq_true this.symm)⟩
          gi_wp2
          rw [← hsz]
          exact ⟨hkf.out, by rw [hsz]; exact hkp.out, B5.out, P2.out⟩
        | false =>
          have C1 : Aside0 (¬ wrap64 (x.o + outS x.s) < a1) := ⟨by
            have := HBB.out
            rw [i64_w] at this
            exact of_decide_eq_false this.symm⟩
          have fin2 := Aside0.mk (fin.out C1.out)
          clear fin
          by_cases c2 : x.s.f0 = 1
          · have d2 : (x.s.f0 == 1) = true := by simp [c2]
            have C2 := Aside0.mk c2
            clear c2
            gi_wp2
            · next h => exact fin2.out _ (by rw [if_pos C2.out, mx, if_pos (by first | exact h | omega), Int.add_zero])
            · next h => exact fin2.out _ (by rw [if_pos C2.out, mx, if_neg (by omega)])
          · have d2 : (x.s.f0 == 1) = false := by simp [c2]
            have C2 := Aside0.mk c2
            clear c2
            gi_wp2
            exact fin2.out _ (by rw [if_neg C2.out])
      clear hKb
      gi_region_with_o (refine ⟨trivial, ?_⟩; gi_at_call 49; (with_reducible refine (CallsIn.inRound l (callsIn_wide.2 (span_Out.calls _ _ _ _ _ (HG.out.below BBD.out.b) HXO.out))).mono ?_); rintro e5 W3 ⟨rfl, hb⟩; have HB5 := Aside0.mk hb; have B5 := Aside0.mk (BBD.out.more hb); have BX5 : Aside0 (Boxed5 W3 Bx x) := ⟨blk_below BXD.out hb⟩; obtain ⟨r0, r1, r2, r3, r4⟩ := B5.out.cells; have cz4 := (blk_cell BX5.out 4).trans (show _ = some (Value.int .i64 x.o) from rfl); clear hb)
      all_goals exact key _ B5 BX5 HB5 _ ⟨rfl⟩
    case done =>
      rintro D zs W hD rfl ⟨hB, hP⟩ hK
      have HW : Aside0 (leastS a1 (stepsL l0 0 0) = 0) := ⟨leastS_all a1 _ hP⟩
      have B5 := Aside0.mk hB
      obtain ⟨q0, q1, q2, q3, q4⟩ := hB.cells
      have hd := hB.bounds
      clear hB hP
      go_wp2
      show bodyPostM _ _ _ _ _ Exit.ret _ _
      have B6 := (B5.out.setV 0).setE 0
      have hK' := ((KeepsOthers.setCell W ⟨w.heap.size + 1, 0, none⟩ (.int .i64 0)).trans (KeepsOthers.setCell _ ⟨w.heap.size + 1 + 1, 0, none⟩ (.int .i64 0))).same D _ hK rfl
      have B7 := (LsB.own (β := Unit) w a1 0 0 (B := W0.heap.size) (by omega)).putObj (s := ()) (.deferred none) B6 hD hK' rfl
      obtain ⟨p0, p1, p2, p3, p4⟩ := B7.cells
      refine ⟨by simp, .inl ⟨_, _, rfl, run_takeDeferred hK', ?_⟩⟩
      exact ⟨.tuple #[.int .i64 (leastS a1 (stepsL l0 0 0)), .int .i64 0], by rw [HW.out]; simp [results, Tryd.results76, Tryd.f76, go_sem, p1, p2], rfl, B7.b⟩
    case stop =>
      rintro D c pre W hD ⟨r, hpre⟩ ⟨rfl, ini, x, rfl, hi, hx, hB⟩ hK
      have HW := Aside0.mk (leastS_stop a1 ini x r hi hx)
      have HP := Aside0.mk hpre
      have B5 := Aside0.mk hB
      obtain ⟨q0, q1, q2, q3, q4⟩ := hB.cells
      clear hB hi hx hpre
      gi_wp2
      show bodyPostM _ _ _ _ _ Exit.ret _ _
      have hl := HW.out
      rw [show ini ++ x :: r = stepsL l0 0 0 by rw [← HP.out]; simp] at hl
      rw [← hl] at B5
      have B7 := (LsB.own (β := Unit) w a1 _ 0 (B := W0.heap.size) (by omega)).putObj (s := ()) (.deferred none) B5.out hD hK rfl
      obtain ⟨p0, p1, p2, p3, p4⟩ := B7.cells
      refine ⟨by simp, .inl ⟨_, _, rfl, run_takeDeferred hK, ?_⟩⟩
      exact ⟨.tuple #[.int .i64 (leastS a1 (stepsL l0 0 0)), .int .i64 0], by simp [results, Tryd.results76, Tryd.f76, go_sem, p1, p2], rfl, B7.b⟩
  clear hK1
  go_region_with (first | (go_at_call 32; (with_reducible refine (op_Out.calls k _ _ l0 n _ (HG.out.below BD.out.b) (Kd.C_below HR0.out BD.out.b) HC0.out H2.out).mono ?_); rintro e3 w2 ⟨rfl, hb⟩; have B2 := Aside0.mk (BD.out.more hb); obtain ⟨r0, r1, r2, r3, r4⟩ := B2.out.cells; clear hb))
  all_goals exact key _ B2
theorem place_Least.calls (k : Nat) (A0 : Option Addr) (c0 : Nat) (l0 : List S26) (a1 r1 r2 : Int) (w : World) (hG : Glob w) (hr0 : Kd.C k26 w A0 l0.length l0) (hc0 : l0.length ≤ c0) (h : place_Least.f k l0 a1 = some (r1, r2)) :
    Calls Tryd.prog 76 #[.slice A0 l0.length c0, .int .i64 a1] w fun e w' => e = .returned (.tuple #[.int .i64 r1, .int .i64 r2]) ∧ Below w.heap.size w w' := by
  unfold place_Least.f at h
  split at h
  · next hok =>
    obtain ⟨e, he, h⟩ := Option.bind_eq_some_iff.1 h
    split at h
    · next h0 =>
      subst h0
      split at h
      · next hlow =>
        obtain ⟨rfl, rfl⟩ : 0 = r1 ∧ 6 = r2 := by simpa using h
        exact place_Least_low k A0 c0 l0 a1 hlow w hG hr0 hc0 he
      · next hlow =>
        obtain ⟨n, hn, h⟩ := Option.bind_eq_some_iff.1 h
        split at h
        · next hhi =>
          obtain ⟨rfl, rfl⟩ : 0 = r1 ∧ 6 = r2 := by simpa using h
          exact place_Least_high k A0 c0 l0 a1 n (by omega) (by omega) w hG hr0 hc0 he hn
        · next hhi =>
          obtain ⟨rfl, rfl⟩ : leastS a1 (stepsL l0 0 0) = r1 ∧ 0 = r2 := by simpa using h
          exact place_Least_main k A0 c0 l0 a1 n (by omega) (by omega) w hG hr0 hc0 hok he hn
    · next h0 =>
      obtain ⟨rfl, rfl⟩ : 0 = r1 ∧ e = r2 := by simpa using h
      exact place_Least_bad k A0 c0 l0 a1 e h0 w hG hr0 hc0 he
  · cases h
end Go.Proofs.YtkefbljogjcodaaDoor.F
end
section
namespace Go.Proofs.YtkefbljogjcodaaDoor.F
open Go.RowKit Go.Proofs.YtkefbljogjcodaaDoorW.PrintWords Go.Proofs.YtkefbljogjcodaaDoorW.PrintLast Go.Proofs.YtkefbljogjcodaaDoorW.PrintMore
attribute [local go_sem] max2_int min2_int max_two min_two max_three min_three max_four min_four cell_setCell_isSome
set_option linter.unusedVariables false
set_option linter.unusedSimpArgs false
def epitomelaw08_shown.f (k : Nat)  : Option (Bool) := (some (([(⟨1, 1, (⟨#[]⟩ : ByteArray)⟩ : S26), (⟨2, 0, (⟨#[120]⟩ : ByteArray)⟩ : S26), (⟨3, 1, (⟨#[]⟩ : ByteArray)⟩ : S26)] : List (S26)) : List (S26))).bind fun y101 => ((place_Where.f k y101 1).bind fun bt104 => ((place_Where.f k y101 2).bind fun bt106 => ((place_Least.f k y101 2).bind fun bt108 => (if bt104.1 = 2 then (if bt104.2 = 0 then (if bt106.1 = 2 then (if bt106.2 = 0 then (if bt108.1 = 1 then (some (bt108.2 == 0)) else (some false)) else (some false)) else (some false)) else (some false)) else (some false)))))
set_option maxHeartbeats 8000000 in
set_option maxRecDepth 100000 in
theorem epitomelaw08_shown.calls (k : Nat)  (r : Bool) (w : World) (hG : Glob w) (h : epitomelaw08_shown.f k  = some r) :
    Calls Tryd.prog 39 #[] w fun e w' => e = .returned (.bool r) ∧ Below w.heap.size w w' := by
  have hu26 := Tryd.underlying26
  have HG := Aside0.mk hG
  clear hG
  have HB := Aside0.mk (Below.refl w.heap.size w)
  have H : ((some (([(⟨1, 1, (⟨#[]⟩ : ByteArray)⟩ : S26), (⟨2, 0, (⟨#[120]⟩ : ByteArray)⟩ : S26), (⟨3, 1, (⟨#[]⟩ : ByteArray)⟩ : S26)] : List (S26)) : List (S26))).bind fun y101 => ((place_Where.f k y101 1).bind fun bt104 => ((place_Where.f k y101 2).bind fun bt106 => ((place_Least.f k y101 2).bind fun bt108 => (if bt104.1 = 2 then (if bt104.2 = 0 then (if bt106.1 = 2 then (if bt106.2 = 0 then (if bt108.1 = 1 then (some (bt108.2 == 0)) else (some false)) else (some false)) else (some false)) else (some false)) else (some false)))))) = some r := h
  clear h
  obtain ⟨y101, hy101⟩ : ∃ y_ : List (S26), y_ = (([(⟨1, 1, (⟨#[]⟩ : ByteArray)⟩ : S26), (⟨2, 0, (⟨#[120]⟩ : ByteArray)⟩ : S26), (⟨3, 1, (⟨#[]⟩ : ByteArray)⟩ : S26)] : List (S26))) := ⟨_, rfl⟩
  replace H : ((place_Where.f k y101 1).bind fun bt104 => ((place_Where.f k y101 2).bind fun bt106 => ((place_Least.f k y101 2).bind fun bt108 => (if bt104.1 = 2 then (if bt104.2 = 0 then (if bt106.1 = 2 then (if bt106.2 = 0 then (if bt108.1 = 1 then (some (bt108.2 == 0)) else (some false)) else (some false)) else (some false)) else (some false)) else (some false))))) = some r := by first | (rw [hy101]; with_reducible exact H) | (have H2_ := (Option.bind_some _ _).symm.trans H; rw [hy101]; with_reducible exact H2_) | (have H2_ := (Option.bind_some _ _).symm.trans H; with_reducible exact H2_) | with_reducible exact H | (rw [hy101]; exact H) | exact H
  have Ny101 := Aside0.mk hy101
  clear hy101
  replace H := Option.bind_eq_some_iff.mp H
  obtain ⟨⟨t104, t105⟩, A10, H⟩ := H
  replace H : ((place_Where.f k y101 2).bind fun bt106 => ((place_Least.f k y101 2).bind fun bt108 => (if t104 = 2 then (if t105 = 0 then (if bt106.1 = 2 then (if bt106.2 = 0 then (if bt108.1 = 1 then (some (bt108.2 == 0)) else (some false)) else (some false)) else (some false)) else (some false)) else (some false)))) = some r := H
  have A1 := Aside0.mk A10
  clear A10
  replace H := Option.bind_eq_some_iff.mp H
  obtain ⟨⟨t106, t107⟩, A20, H⟩ := H
  replace H : ((place_Least.f k y101 2).bind fun bt108 => (if t104 = 2 then (if t105 = 0 then (if t106 = 2 then (if t107 = 0 then (if bt108.1 = 1 then (some (bt108.2 == 0)) else (some false)) else (some false)) else (some false)) else (some false)) else (some false))) = some r := H
  have A2 := Aside0.mk A20
  clear A20
  replace H := Option.bind_eq_some_iff.mp H
  obtain ⟨⟨t108, t109⟩, A30, H⟩ := H
  replace H : (if t104 = 2 then (if t105 = 0 then (if t106 = 2 then (if t107 = 0 then (if t108 = 1 then (some (t109 == 0)) else (some false)) else (some false)) else (some false)) else (some false)) else (some false)) = some r := H
  have A3 := Aside0.mk A30
  clear A30
  by_cases c4 : t104 = 2
  · rw [if_pos c4] at H
    have c4b0 : (t104 == 2) = true := beq_iff_eq.mpr c4
    have c4b1 : (t104 != 2) = false := bne_eq_false_iff_eq.mpr c4
    clear c4
    by_cases c5 : t105 = 0
    · rw [if_pos c5] at H
      have c5b0 : (t105 == 0) = true := beq_iff_eq.mpr c5
      have c5b1 : (t105 != 0) = false := bne_eq_false_iff_eq.mpr c5
      clear c5
      by_cases c6 : t106 = 2
      · rw [if_pos c6] at H
        have c6b0 : (t106 == 2) = true := beq_iff_eq.mpr c6
        have c6b1 : (t106 != 2) = false := bne_eq_false_iff_eq.mpr c6
        clear c6
        by_cases c7 : t107 = 0
        · rw [if_pos c7] at H
          have c7b0 : (t107 == 0) = true := beq_iff_eq.mpr c7
          have c7b1 : (t107 != 0) = false := bne_eq_false_iff_eq.mpr c7
          clear c7
          by_cases c8 : t108 = 1
          · rw [if_pos c8] at H
            have c8b0 : (t108 == 1) = true := beq_iff_eq.mpr c8
            have c8b1 : (t108 != 1) = false := bne_eq_false_iff_eq.mpr c8
            clear c8
            obtain rfl := Option.some.inj H
            go_enter Tryd.func39, Tryd.ntmps39
            go_wp2_with (first | ((with_reducible refine gate_dst (N := 11) rfl ?_); refine Kd.R_lit k26 _ 26 ?hg (N := 11) ?hd (xs := ([(⟨1, 1, (⟨#[]⟩ : ByteArray)⟩ : S26), (⟨2, 0, (⟨#[120]⟩ : ByteArray)⟩ : S26), (⟨3, 1, (⟨#[]⟩ : ByteArray)⟩ : S26)] : List (S26))) (inner := [.int .i64 1, .int .i64 1, .string (⟨#[]⟩ : ByteArray), .int .i64 2, .int .i64 0, .string (⟨#[120]⟩ : ByteArray), .int .i64 3, .int .i64 1, .string (⟨#[]⟩ : ByteArray)]) (ok := fun _ => True) (okp := fun _ => True) ?hr ?hp (fun _ hk => hk) trivial (Below.refl _ _) (Nat.le_refl _) (by simp) ?_; (case hd => rfl); (case hg => rfl); (case hr => first | (go_simp; done) | (go_simp; rfl)); (case hp => exact (Reps.c3 (show Kd.M k26 _ _ _ (⟨1, 1, (⟨#[]⟩ : ByteArray)⟩ : S26) [.int .i64 1, .int .i64 1, .string (⟨#[]⟩ : ByteArray)] from (k26_mkM _ _ _ (⟨1, 1, (⟨#[]⟩ : ByteArray)⟩ : S26) )) (Reps.c3 (show Kd.M k26 _ _ _ (⟨2, 0, (⟨#[120]⟩ : ByteArray)⟩ : S26) [.int .i64 2, .int .i64 0, .string (⟨#[120]⟩ : ByteArray)] from (k26_mkM _ _ _ (⟨2, 0, (⟨#[120]⟩ : ByteArray)⟩ : S26) )) (Reps.c3 (show Kd.M k26 _ _ _ (⟨3, 1, (⟨#[]⟩ : ByteArray)⟩ : S26) [.int .i64 3, .int .i64 1, .string (⟨#[]⟩ : ByteArray)] from (k26_mkM _ _ _ (⟨3, 1, (⟨#[]⟩ : ByteArray)⟩ : S26) )) (Reps.none _ _))))); intro v102 w9 ho10 hb hg_ hnew_; clear hg_ hnew_; (first | rw [← Ny101.out] at ho10 | (simp only [Int.reduceToNat] at ho10; rw [← Ny101.out] at ho10)); have n0_ := Aside0.mk (Kd.R_lower ho10 (below_size (by repeat (first | (with_reducible first | exact HB.out | apply below_alloc | apply pw_below_drewN | apply below_drew1) | exact HB.out)))); have n1_ := Aside0.mk (below_step (by repeat (first | (with_reducible first | exact HB.out | apply below_alloc | apply pw_below_drewN | apply below_drew1) | exact HB.out)) hb); clear HB; have HO103 := n0_; have HB := n1_; clear n0_ n1_; clear hb ho10; obtain ⟨Ao11, co11, eo11⟩ := Kd.R_slice HO103.out; subst eo11) | ((with_reducible refine gate_callee (f := 33) rfl ?_); refine goesL_ (some 14) rfl rfl Tryd.func33 (by kernel_rfl) rfl #[.slice Ao11 y101.length co11, .int .i64 1] rfl (by (try simp only [List.map_toArray, List.map_cons, List.map_nil]); first | done | rfl | (simp only [List.length_drop, List.length_take]; rfl)) ?_; (with_reducible refine (place_Where.calls k _ _ y101 1 t104 t105 _ ?side1 ?side2 ?side3 A1.out).mono ?_); (case side1 => first | (with_reducible exact HG.out) | exact Glob.below HG.out (by repeat (first | (with_reducible first | exact HB.out | apply below_alloc | apply pw_below_drewN | apply below_drew1) | exact HB.out)) | exact Glob.drawn HG.out (by repeat (first | exact Drawn0.refl _ | apply Drawn0.step))); (case side2 => repeat (first | exact (Kd.R_reads' HO103.out).2.2 | (with_reducible refine Kd.C_alloc ?_ _) | (with_reducible refine Kd.C_drewN ?_ _) | (with_reducible refine Kd.C_drew ?_))); (case side3 => exact (Kd.R_reads' HO103.out).2.1); rintro e w12 ⟨rfl, hb⟩; refine ⟨_, rfl, ?_⟩; have n0_ := Aside0.mk (Kd.R_below (by (with_reducible repeat (first | apply Kd.R_alloc | apply Kd.R_drewN | apply Kd.R_drew)); exact HO103.out) hb); have n1_ := Aside0.mk (below_step (by repeat (first | (with_reducible first | exact HB.out | apply below_alloc | apply pw_below_drewN | apply below_drew1) | exact HB.out)) hb); clear HO103; clear HB; have HO103 := n0_; have HB := n1_; clear n0_ n1_; (try clear hb); (try clear hb2); (try clear hk); (try clear hi); (try clear A1)) | ((with_reducible refine gate_callee (f := 33) rfl ?_); refine goesL_ (some 19) rfl rfl Tryd.func33 (by kernel_rfl) rfl #[.slice Ao11 y101.length co11, .int .i64 2] rfl (by (try simp only [List.map_toArray, List.map_cons, List.map_nil]); first | done | rfl | (simp only [List.length_drop, List.length_take]; rfl)) ?_; (with_reducible refine (place_Where.calls k _ _ y101 2 t106 t107 _ ?side1 ?side2 ?side3 A2.out).mono ?_); (case side1 => first | (with_reducible exact HG.out) | exact Glob.below HG.out (by repeat (first | (with_reducible first | exact HB.out | apply below_alloc | apply pw_below_drewN | apply below_drew1) | exact HB.out)) | exact Glob.drawn HG.out (by repeat (first | exact Drawn0.refl _ | apply Drawn0.step))); (case side2 => repeat (first | exact (Kd.R_reads' HO103.out).2.2 | (with_reducible refine Kd.C_alloc ?_ _) | (with_reducible refine Kd.C_drewN ?_ _) | (with_reducible refine Kd.C_drew ?_))); (case side3 => exact (Kd.R_reads' HO103.out).2.1); rintro e w13 ⟨rfl, hb⟩; refine ⟨_, rfl, ?_⟩; have n0_ := Aside0.mk (Kd.R_below (by (with_reducible repeat (first | apply Kd.R_alloc | apply Kd.R_drewN | apply Kd.R_drew)); exact HO103.out) hb); have n1_ := Aside0.mk (below_step (by repeat (first | (with_reducible first | exact HB.out | apply below_alloc | apply pw_below_drewN | apply below_drew1) | exact HB.out)) hb); clear HO103; clear HB; have HO103 := n0_; have HB := n1_; clear n0_ n1_; (try clear hb); (try clear hb2); (try clear hk); (try clear hi); (try clear A2)) | ((with_reducible refine gate_callee (f := 76) rfl ?_); refine goesL_ (some 24) rfl rfl Tryd.func76 (by kernel_rfl) rfl #[.slice Ao11 y101.length co11, .int .i64 2] rfl (by (try simp only [List.map_toArray, List.map_cons, List.map_nil]); first | done | rfl | (simp only [List.length_drop, List.length_take]; rfl)) ?_; (with_reducible refine (place_Least.calls k _ _ y101 2 t108 t109 _ ?side1 ?side2 ?side3 A3.out).mono ?_); (case side1 => first | (with_reducible exact HG.out) | exact Glob.below HG.out (by repeat (first | (with_reducible first | exact HB.out | apply below_alloc | apply pw_below_drewN | apply below_drew1) | exact HB.out)) | exact Glob.drawn HG.out (by repeat (first | exact Drawn0.refl _ | apply Drawn0.step))); (case side2 => repeat (first | exact (Kd.R_reads' HO103.out).2.2 | (with_reducible refine Kd.C_alloc ?_ _) | (with_reducible refine Kd.C_drewN ?_ _) | (with_reducible refine Kd.C_drew ?_))); (case side3 => exact (Kd.R_reads' HO103.out).2.1); rintro e w14 ⟨rfl, hb⟩; refine ⟨_, rfl, ?_⟩; have n0_ := Aside0.mk (Kd.R_below (by (with_reducible repeat (first | apply Kd.R_alloc | apply Kd.R_drewN | apply Kd.R_drew)); exact HO103.out) hb); have n1_ := Aside0.mk (below_step (by repeat (first | (with_reducible first | exact HB.out | apply below_alloc | apply pw_below_drewN | apply below_drew1) | exact HB.out)) hb); clear HO103; clear HB; have HO103 := n0_; have HB := n1_; clear n0_ n1_; (try clear hb); (try clear hb2); (try clear hk); (try clear hi)))
            go_ret
            exact ⟨by first | rfl | (simp [errW_none, errW_some] <;> rfl) | (simp [*, errW_none, errW_some] <;> rfl), by repeat (first | (with_reducible first | exact HB.out | apply below_alloc | apply pw_below_drewN | apply below_drew1) | exact HB.out)⟩
          · rw [if_neg c8] at H
            have c8b0 : (t108 == 1) = false := beq_eq_false_iff_ne.mpr c8
            have c8b1 : (t108 != 1) = true := bne_iff_ne.mpr c8
            obtain rfl := Option.some.inj H
            go_enter Tryd.func39, Tryd.ntmps39
            go_wp2_with (first | ((with_reducible refine gate_dst (N := 11) rfl ?_); refine Kd.R_lit k26 _ 26 ?hg (N := 11) ?hd (xs := ([(⟨1, 1, (⟨#[]⟩ : ByteArray)⟩ : S26), (⟨2, 0, (⟨#[120]⟩ : ByteArray)⟩ : S26), (⟨3, 1, (⟨#[]⟩ : ByteArray)⟩ : S26)] : List (S26))) (inner := [.int .i64 1, .int .i64 1, .string (⟨#[]⟩ : ByteArray), .int .i64 2, .int .i64 0, .string (⟨#[120]⟩ : ByteArray), .int .i64 3, .int .i64 1, .string (⟨#[]⟩ : ByteArray)]) (ok := fun _ => True) (okp := fun _ => True) ?hr ?hp (fun _ hk => hk) trivial (Below.refl _ _) (Nat.le_refl _) (by simp) ?_; (case hd => rfl); (case hg => rfl); (case hr => first | (go_simp; done) | (go_simp; rfl)); (case hp => exact (Reps.c3 (show Kd.M k26 _ _ _ (⟨1, 1, (⟨#[]⟩ : ByteArray)⟩ : S26) [.int .i64 1, .int .i64 1, .string (⟨#[]⟩ : ByteArray)] from (k26_mkM _ _ _ (⟨1, 1, (⟨#[]⟩ : ByteArray)⟩ : S26) )) (Reps.c3 (show Kd.M k26 _ _ _ (⟨2, 0, (⟨#[120]⟩ : ByteArray)⟩ : S26) [.int .i64 2, .int .i64 0, .string (⟨#[120]⟩ : ByteArray)] from (k26_mkM _ _ _ (⟨2, 0, (⟨#[120]⟩ : ByteArray)⟩ : S26) )) (Reps.c3 (show Kd.M k26 _ _ _ (⟨3, 1, (⟨#[]⟩ : ByteArray)⟩ : S26) [.int .i64 3, .int .i64 1, .string (⟨#[]⟩ : ByteArray)] from (k26_mkM _ _ _ (⟨3, 1, (⟨#[]⟩ : ByteArray)⟩ : S26) )) (Reps.none _ _))))); intro v102 w15 ho16 hb hg_ hnew_; clear hg_ hnew_; (first | rw [← Ny101.out] at ho16 | (simp only [Int.reduceToNat] at ho16; rw [← Ny101.out] at ho16)); have n0_ := Aside0.mk (Kd.R_lower ho16 (below_size (by repeat (first | (with_reducible first | exact HB.out | apply below_alloc | apply pw_below_drewN | apply below_drew1) | exact HB.out)))); have n1_ := Aside0.mk (below_step (by repeat (first | (with_reducible first | exact HB.out | apply below_alloc | apply pw_below_drewN | apply below_drew1) | exact HB.out)) hb); clear HB; have HO103 := n0_; have HB := n1_; clear n0_ n1_; clear hb ho16; obtain ⟨Ao17, co17, eo17⟩ := Kd.R_slice HO103.out; subst eo17) | ((with_reducible refine gate_callee (f := 33) rfl ?_); refine goesL_ (some 14) rfl rfl Tryd.func33 (by kernel_rfl) rfl #[.slice Ao17 y101.length co17, .int .i64 1] rfl (by (try simp only [List.map_toArray, List.map_cons, List.map_nil]); first | done | rfl | (simp only [List.length_drop, List.length_take]; rfl)) ?_; (with_reducible refine (place_Where.calls k _ _ y101 1 t104 t105 _ ?side1 ?side2 ?side3 A1.out).mono ?_); (case side1 => first | (with_reducible exact HG.out) | exact Glob.below HG.out (by repeat (first | (with_reducible first | exact HB.out | apply below_alloc | apply pw_below_drewN | apply below_drew1) | exact HB.out)) | exact Glob.drawn HG.out (by repeat (first | exact Drawn0.refl _ | apply Drawn0.step))); (case side2 => repeat (first | exact (Kd.R_reads' HO103.out).2.2 | (with_reducible refine Kd.C_alloc ?_ _) | (with_reducible refine Kd.C_drewN ?_ _) | (with_reducible refine Kd.C_drew ?_))); (case side3 => exact (Kd.R_reads' HO103.out).2.1); rintro e w18 ⟨rfl, hb⟩; refine ⟨_, rfl, ?_⟩; have n0_ := Aside0.mk (Kd.R_below (by (with_reducible repeat (first | apply Kd.R_alloc | apply Kd.R_drewN | apply Kd.R_drew)); exact HO103.out) hb); have n1_ := Aside0.mk (below_step (by repeat (first | (with_reducible first | exact HB.out | apply below_alloc | apply pw_below_drewN | apply below_drew1) | exact HB.out)) hb); clear HO103; clear HB; have HO103 := n0_; have HB := n1_; clear n0_ n1_; (try clear hb); (try clear hb2); (try clear hk); (try clear hi); (try clear A1)) | ((with_reducible refine gate_callee (f := 33) rfl ?_); refine goesL_ (some 19) rfl rfl Tryd.func33 (by kernel_rfl) rfl #[.slice Ao17 y101.length co17, .int .i64 2] rfl (by (try simp only [List.map_toArray, List.map_cons, List.map_nil]); first | done | rfl | (simp only [List.length_drop, List.length_take]; rfl)) ?_; (with_reducible refine (place_Where.calls k _ _ y101 2 t106 t107 _ ?side1 ?side2 ?side3 A2.out).mono ?_); (case side1 => first | (with_reducible exact HG.out) | exact Glob.below HG.out (by repeat (first | (with_reducible first | exact HB.out | apply below_alloc | apply pw_below_drewN | apply below_drew1) | exact HB.out)) | exact Glob.drawn HG.out (by repeat (first | exact Drawn0.refl _ | apply Drawn0.step))); (case side2 => repeat (first | exact (Kd.R_reads' HO103.out).2.2 | (with_reducible refine Kd.C_alloc ?_ _) | (with_reducible refine Kd.C_drewN ?_ _) | (with_reducible refine Kd.C_drew ?_))); (case side3 => exact (Kd.R_reads' HO103.out).2.1); rintro e w19 ⟨rfl, hb⟩; refine ⟨_, rfl, ?_⟩; have n0_ := Aside0.mk (Kd.R_below (by (with_reducible repeat (first | apply Kd.R_alloc | apply Kd.R_drewN | apply Kd.R_drew)); exact HO103.out) hb); have n1_ := Aside0.mk (below_step (by repeat (first | (with_reducible first | exact HB.out | apply below_alloc | apply pw_below_drewN | apply below_drew1) | exact HB.out)) hb); clear HO103; clear HB; have HO103 := n0_; have HB := n1_; clear n0_ n1_; (try clear hb); (try clear hb2); (try clear hk); (try clear hi); (try clear A2)) | ((with_reducible refine gate_callee (f := 76) rfl ?_); refine goesL_ (some 24) rfl rfl Tryd.func76 (by kernel_rfl) rfl #[.slice Ao17 y101.length co17, .int .i64 2] rfl (by (try simp only [List.map_toArray, List.map_cons, List.map_nil]); first | done | rfl | (simp only [List.length_drop, List.length_take]; rfl)) ?_; (with_reducible refine (place_Least.calls k _ _ y101 2 t108 t109 _ ?side1 ?side2 ?side3 A3.out).mono ?_); (case side1 => first | (with_reducible exact HG.out) | exact Glob.below HG.out (by repeat (first | (with_reducible first | exact HB.out | apply below_alloc | apply pw_below_drewN | apply below_drew1) | exact HB.out)) | exact Glob.drawn HG.out (by repeat (first | exact Drawn0.refl _ | apply Drawn0.step))); (case side2 => repeat (first | exact (Kd.R_reads' HO103.out).2.2 | (with_reducible refine Kd.C_alloc ?_ _) | (with_reducible refine Kd.C_drewN ?_ _) | (with_reducible refine Kd.C_drew ?_))); (case side3 => exact (Kd.R_reads' HO103.out).2.1); rintro e w20 ⟨rfl, hb⟩; refine ⟨_, rfl, ?_⟩; have n0_ := Aside0.mk (Kd.R_below (by (with_reducible repeat (first | apply Kd.R_alloc | apply Kd.R_drewN | apply Kd.R_drew)); exact HO103.out) hb); have n1_ := Aside0.mk (below_step (by repeat (first | (with_reducible first | exact HB.out | apply below_alloc | apply pw_below_drewN | apply below_drew1) | exact HB.out)) hb); clear HO103; clear HB; have HO103 := n0_; have HB := n1_; clear n0_ n1_; (try clear hb); (try clear hb2); (try clear hk); (try clear hi)))
            go_ret
            exact ⟨by first | rfl | (simp [errW_none, errW_some] <;> rfl) | (simp [*, errW_none, errW_some] <;> rfl), by repeat (first | (with_reducible first | exact HB.out | apply below_alloc | apply pw_below_drewN | apply below_drew1) | exact HB.out)⟩
        · rw [if_neg c7] at H
          have c7b0 : (t107 == 0) = false := beq_eq_false_iff_ne.mpr c7
          have c7b1 : (t107 != 0) = true := bne_iff_ne.mpr c7
          obtain rfl := Option.some.inj H
          go_enter Tryd.func39, Tryd.ntmps39
          go_wp2_with (first | ((with_reducible refine gate_dst (N := 11) rfl ?_); refine Kd.R_lit k26 _ 26 ?hg (N := 11) ?hd (xs := ([(⟨1, 1, (⟨#[]⟩ : ByteArray)⟩ : S26), (⟨2, 0, (⟨#[120]⟩ : ByteArray)⟩ : S26), (⟨3, 1, (⟨#[]⟩ : ByteArray)⟩ : S26)] : List (S26))) (inner := [.int .i64 1, .int .i64 1, .string (⟨#[]⟩ : ByteArray), .int .i64 2, .int .i64 0, .string (⟨#[120]⟩ : ByteArray), .int .i64 3, .int .i64 1, .string (⟨#[]⟩ : ByteArray)]) (ok := fun _ => True) (okp := fun _ => True) ?hr ?hp (fun _ hk => hk) trivial (Below.refl _ _) (Nat.le_refl _) (by simp) ?_; (case hd => rfl); (case hg => rfl); (case hr => first | (go_simp; done) | (go_simp; rfl)); (case hp => exact (Reps.c3 (show Kd.M k26 _ _ _ (⟨1, 1, (⟨#[]⟩ : ByteArray)⟩ : S26) [.int .i64 1, .int .i64 1, .string (⟨#[]⟩ : ByteArray)] from (k26_mkM _ _ _ (⟨1, 1, (⟨#[]⟩ : ByteArray)⟩ : S26) )) (Reps.c3 (show Kd.M k26 _ _ _ (⟨2, 0, (⟨#[120]⟩ : ByteArray)⟩ : S26) [.int .i64 2, .int .i64 0, .string (⟨#[120]⟩ : ByteArray)] from (k26_mkM _ _ _ (⟨2, 0, (⟨#[120]⟩ : ByteArray)⟩ : S26) )) (Reps.c3 (show Kd.M k26 _ _ _ (⟨3, 1, (⟨#[]⟩ : ByteArray)⟩ : S26) [.int .i64 3, .int .i64 1, .string (⟨#[]⟩ : ByteArray)] from (k26_mkM _ _ _ (⟨3, 1, (⟨#[]⟩ : ByteArray)⟩ : S26) )) (Reps.none _ _))))); intro v102 w21 ho22 hb hg_ hnew_; clear hg_ hnew_; (first | rw [← Ny101.out] at ho22 | (simp only [Int.reduceToNat] at ho22; rw [← Ny101.out] at ho22)); have n0_ := Aside0.mk (Kd.R_lower ho22 (below_size (by repeat (first | (with_reducible first | exact HB.out | apply below_alloc | apply pw_below_drewN | apply below_drew1) | exact HB.out)))); have n1_ := Aside0.mk (below_step (by repeat (first | (with_reducible first | exact HB.out | apply below_alloc | apply pw_below_drewN | apply below_drew1) | exact HB.out)) hb); clear HB; have HO103 := n0_; have HB := n1_; clear n0_ n1_; clear hb ho22; obtain ⟨Ao23, co23, eo23⟩ := Kd.R_slice HO103.out; subst eo23) | ((with_reducible refine gate_callee (f := 33) rfl ?_); refine goesL_ (some 14) rfl rfl Tryd.func33 (by kernel_rfl) rfl #[.slice Ao23 y101.length co23, .int .i64 1] rfl (by (try simp only [List.map_toArray, List.map_cons, List.map_nil]); first | done | rfl | (simp only [List.length_drop, List.length_take]; rfl)) ?_; (with_reducible refine (place_Where.calls k _ _ y101 1 t104 t105 _ ?side1 ?side2 ?side3 A1.out).mono ?_); (case side1 => first | (with_reducible exact HG.out) | exact Glob.below HG.out (by repeat (first | (with_reducible first | exact HB.out | apply below_alloc | apply pw_below_drewN | apply below_drew1) | exact HB.out)) | exact Glob.drawn HG.out (by repeat (first | exact Drawn0.refl _ | apply Drawn0.step))); (case side2 => repeat (first | exact (Kd.R_reads' HO103.out).2.2 | (with_reducible refine Kd.C_alloc ?_ _) | (with_reducible refine Kd.C_drewN ?_ _) | (with_reducible refine Kd.C_drew ?_))); (case side3 => exact (Kd.R_reads' HO103.out).2.1); rintro e w24 ⟨rfl, hb⟩; refine ⟨_, rfl, ?_⟩; have n0_ := Aside0.mk (Kd.R_below (by (with_reducible repeat (first | apply Kd.R_alloc | apply Kd.R_drewN | apply Kd.R_drew)); exact HO103.out) hb); have n1_ := Aside0.mk (below_step (by repeat (first | (with_reducible first | exact HB.out | apply below_alloc | apply pw_below_drewN | apply below_drew1) | exact HB.out)) hb); clear HO103; clear HB; have HO103 := n0_; have HB := n1_; clear n0_ n1_; (try clear hb); (try clear hb2); (try clear hk); (try clear hi); (try clear A1)) | ((with_reducible refine gate_callee (f := 33) rfl ?_); refine goesL_ (some 19) rfl rfl Tryd.func33 (by kernel_rfl) rfl #[.slice Ao23 y101.length co23, .int .i64 2] rfl (by (try simp only [List.map_toArray, List.map_cons, List.map_nil]); first | done | rfl | (simp only [List.length_drop, List.length_take]; rfl)) ?_; (with_reducible refine (place_Where.calls k _ _ y101 2 t106 t107 _ ?side1 ?side2 ?side3 A2.out).mono ?_); (case side1 => first | (with_reducible exact HG.out) | exact Glob.below HG.out (by repeat (first | (with_reducible first | exact HB.out | apply below_alloc | apply pw_below_drewN | apply below_drew1) | exact HB.out)) | exact Glob.drawn HG.out (by repeat (first | exact Drawn0.refl _ | apply Drawn0.step))); (case side2 => repeat (first | exact (Kd.R_reads' HO103.out).2.2 | (with_reducible refine Kd.C_alloc ?_ _) | (with_reducible refine Kd.C_drewN ?_ _) | (with_reducible refine Kd.C_drew ?_))); (case side3 => exact (Kd.R_reads' HO103.out).2.1); rintro e w25 ⟨rfl, hb⟩; refine ⟨_, rfl, ?_⟩; have n0_ := Aside0.mk (Kd.R_below (by (with_reducible repeat (first | apply Kd.R_alloc | apply Kd.R_drewN | apply Kd.R_drew)); exact HO103.out) hb); have n1_ := Aside0.mk (below_step (by repeat (first | (with_reducible first | exact HB.out | apply below_alloc | apply pw_below_drewN | apply below_drew1) | exact HB.out)) hb); clear HO103; clear HB; have HO103 := n0_; have HB := n1_; clear n0_ n1_; (try clear hb); (try clear hb2); (try clear hk); (try clear hi); (try clear A2)) | ((with_reducible refine gate_callee (f := 76) rfl ?_); refine goesL_ (some 24) rfl rfl Tryd.func76 (by kernel_rfl) rfl #[.slice Ao23 y101.length co23, .int .i64 2] rfl (by (try simp only [List.map_toArray, List.map_cons, List.map_nil]); first | done | rfl | (simp only [List.length_drop, List.length_take]; rfl)) ?_; (with_reducible refine (place_Least.calls k _ _ y101 2 t108 t109 _ ?side1 ?side2 ?side3 A3.out).mono ?_); (case side1 => first | (with_reducible exact HG.out) | exact Glob.below HG.out (by repeat (first | (with_reducible first | exact HB.out | apply below_alloc | apply pw_below_drewN | apply below_drew1) | exact HB.out)) | exact Glob.drawn HG.out (by repeat (first | exact Drawn0.refl _ | apply Drawn0.step))); (case side2 => repeat (first | exact (Kd.R_reads' HO103.out).2.2 | (with_reducible refine Kd.C_alloc ?_ _) | (with_reducible refine Kd.C_drewN ?_ _) | (with_reducible refine Kd.C_drew ?_))); (case side3 => exact (Kd.R_reads' HO103.out).2.1); rintro e w26 ⟨rfl, hb⟩; refine ⟨_, rfl, ?_⟩; have n0_ := Aside0.mk (Kd.R_below (by (with_reducible repeat (first | apply Kd.R_alloc | apply Kd.R_drewN | apply Kd.R_drew)); exact HO103.out) hb); have n1_ := Aside0.mk (below_step (by repeat (first | (with_reducible first | exact HB.out | apply below_alloc | apply pw_below_drewN | apply below_drew1) | exact HB.out)) hb); clear HO103; clear HB; have HO103 := n0_; have HB := n1_; clear n0_ n1_; (try clear hb); (try clear hb2); (try clear hk); (try clear hi)))
          go_ret
          exact ⟨by first | rfl | (simp [errW_none, errW_some] <;> rfl) | (simp [*, errW_none, errW_some] <;> rfl), by repeat (first | (with_reducible first | exact HB.out | apply below_alloc | apply pw_below_drewN | apply below_drew1) | exact HB.out)⟩
      · rw [if_neg c6] at H
        have c6b0 : (t106 == 2) = false := beq_eq_false_iff_ne.mpr c6
        have c6b1 : (t106 != 2) = true := bne_iff_ne.mpr c6
        obtain rfl := Option.some.inj H
        go_enter Tryd.func39, Tryd.ntmps39
        go_wp2_with (first | ((with_reducible refine gate_dst (N := 11) rfl ?_); refine Kd.R_lit k26 _ 26 ?hg (N := 11) ?hd (xs := ([(⟨1, 1, (⟨#[]⟩ : ByteArray)⟩ : S26), (⟨2, 0, (⟨#[120]⟩ : ByteArray)⟩ : S26), (⟨3, 1, (⟨#[]⟩ : ByteArray)⟩ : S26)] : List (S26))) (inner := [.int .i64 1, .int .i64 1, .string (⟨#[]⟩ : ByteArray), .int .i64 2, .int .i64 0, .string (⟨#[120]⟩ : ByteArray), .int .i64 3, .int .i64 1, .string (⟨#[]⟩ : ByteArray)]) (ok := fun _ => True) (okp := fun _ => True) ?hr ?hp (fun _ hk => hk) trivial (Below.refl _ _) (Nat.le_refl _) (by simp) ?_; (case hd => rfl); (case hg => rfl); (case hr => first | (go_simp; done) | (go_simp; rfl)); (case hp => exact (Reps.c3 (show Kd.M k26 _ _ _ (⟨1, 1, (⟨#[]⟩ : ByteArray)⟩ : S26) [.int .i64 1, .int .i64 1, .string (⟨#[]⟩ : ByteArray)] from (k26_mkM _ _ _ (⟨1, 1, (⟨#[]⟩ : ByteArray)⟩ : S26) )) (Reps.c3 (show Kd.M k26 _ _ _ (⟨2, 0, (⟨#[120]⟩ : ByteArray)⟩ : S26) [.int .i64 2, .int .i64 0, .string (⟨#[120]⟩ : ByteArray)] from (k26_mkM _ _ _ (⟨2, 0, (⟨#[120]⟩ : ByteArray)⟩ : S26) )) (Reps.c3 (show Kd.M k26 _ _ _ (⟨3, 1, (⟨#[]⟩ : ByteArray)⟩ : S26) [.int .i64 3, .int .i64 1, .string (⟨#[]⟩ : ByteArray)] from (k26_mkM _ _ _ (⟨3, 1, (⟨#[]⟩ : ByteArray)⟩ : S26) )) (Reps.none _ _))))); intro v102 w27 ho28 hb hg_ hnew_; clear hg_ hnew_; (first | rw [← Ny101.out] at ho28 | (simp only [Int.reduceToNat] at ho28; rw [← Ny101.out] at ho28)); have n0_ := Aside0.mk (Kd.R_lower ho28 (below_size (by repeat (first | (with_reducible first | exact HB.out | apply below_alloc | apply pw_below_drewN | apply below_drew1) | exact HB.out)))); have n1_ := Aside0.mk (below_step (by repeat (first | (with_reducible first | exact HB.out | apply below_alloc | apply pw_below_drewN | apply below_drew1) | exact HB.out)) hb); clear HB; have HO103 := n0_; have HB := n1_; clear n0_ n1_; clear hb ho28; obtain ⟨Ao29, co29, eo29⟩ := Kd.R_slice HO103.out; subst eo29) | ((with_reducible refine gate_callee (f := 33) rfl ?_); refine goesL_ (some 14) rfl rfl Tryd.func33 (by kernel_rfl) rfl #[.slice Ao29 y101.length co29, .int .i64 1] rfl (by (try simp only [List.map_toArray, List.map_cons, List.map_nil]); first | done | rfl | (simp only [List.length_drop, List.length_take]; rfl)) ?_; (with_reducible refine (place_Where.calls k _ _ y101 1 t104 t105 _ ?side1 ?side2 ?side3 A1.out).mono ?_); (case side1 => first | (with_reducible exact HG.out) | exact Glob.below HG.out (by repeat (first | (with_reducible first | exact HB.out | apply below_alloc | apply pw_below_drewN | apply below_drew1) | exact HB.out)) | exact Glob.drawn HG.out (by repeat (first | exact Drawn0.refl _ | apply Drawn0.step))); (case side2 => repeat (first | exact (Kd.R_reads' HO103.out).2.2 | (with_reducible refine Kd.C_alloc ?_ _) | (with_reducible refine Kd.C_drewN ?_ _) | (with_reducible refine Kd.C_drew ?_))); (case side3 => exact (Kd.R_reads' HO103.out).2.1); rintro e w30 ⟨rfl, hb⟩; refine ⟨_, rfl, ?_⟩; have n0_ := Aside0.mk (Kd.R_below (by (with_reducible repeat (first | apply Kd.R_alloc | apply Kd.R_drewN | apply Kd.R_drew)); exact HO103.out) hb); have n1_ := Aside0.mk (below_step (by repeat (first | (with_reducible first | exact HB.out | apply below_alloc | apply pw_below_drewN | apply below_drew1) | exact HB.out)) hb); clear HO103; clear HB; have HO103 := n0_; have HB := n1_; clear n0_ n1_; (try clear hb); (try clear hb2); (try clear hk); (try clear hi); (try clear A1)) | ((with_reducible refine gate_callee (f := 33) rfl ?_); refine goesL_ (some 19) rfl rfl Tryd.func33 (by kernel_rfl) rfl #[.slice Ao29 y101.length co29, .int .i64 2] rfl (by (try simp only [List.map_toArray, List.map_cons, List.map_nil]); first | done | rfl | (simp only [List.length_drop, List.length_take]; rfl)) ?_; (with_reducible refine (place_Where.calls k _ _ y101 2 t106 t107 _ ?side1 ?side2 ?side3 A2.out).mono ?_); (case side1 => first | (with_reducible exact HG.out) | exact Glob.below HG.out (by repeat (first | (with_reducible first | exact HB.out | apply below_alloc | apply pw_below_drewN | apply below_drew1) | exact HB.out)) | exact Glob.drawn HG.out (by repeat (first | exact Drawn0.refl _ | apply Drawn0.step))); (case side2 => repeat (first | exact (Kd.R_reads' HO103.out).2.2 | (with_reducible refine Kd.C_alloc ?_ _) | (with_reducible refine Kd.C_drewN ?_ _) | (with_reducible refine Kd.C_drew ?_))); (case side3 => exact (Kd.R_reads' HO103.out).2.1); rintro e w31 ⟨rfl, hb⟩; refine ⟨_, rfl, ?_⟩; have n0_ := Aside0.mk (Kd.R_below (by (with_reducible repeat (first | apply Kd.R_alloc | apply Kd.R_drewN | apply Kd.R_drew)); exact HO103.out) hb); have n1_ := Aside0.mk (below_step (by repeat (first | (with_reducible first | exact HB.out | apply below_alloc | apply pw_below_drewN | apply below_drew1) | exact HB.out)) hb); clear HO103; clear HB; have HO103 := n0_; have HB := n1_; clear n0_ n1_; (try clear hb); (try clear hb2); (try clear hk); (try clear hi); (try clear A2)) | ((with_reducible refine gate_callee (f := 76) rfl ?_); refine goesL_ (some 24) rfl rfl Tryd.func76 (by kernel_rfl) rfl #[.slice Ao29 y101.length co29, .int .i64 2] rfl (by (try simp only [List.map_toArray, List.map_cons, List.map_nil]); first | done | rfl | (simp only [List.length_drop, List.length_take]; rfl)) ?_; (with_reducible refine (place_Least.calls k _ _ y101 2 t108 t109 _ ?side1 ?side2 ?side3 A3.out).mono ?_); (case side1 => first | (with_reducible exact HG.out) | exact Glob.below HG.out (by repeat (first | (with_reducible first | exact HB.out | apply below_alloc | apply pw_below_drewN | apply below_drew1) | exact HB.out)) | exact Glob.drawn HG.out (by repeat (first | exact Drawn0.refl _ | apply Drawn0.step))); (case side2 => repeat (first | exact (Kd.R_reads' HO103.out).2.2 | (with_reducible refine Kd.C_alloc ?_ _) | (with_reducible refine Kd.C_drewN ?_ _) | (with_reducible refine Kd.C_drew ?_))); (case side3 => exact (Kd.R_reads' HO103.out).2.1); rintro e w32 ⟨rfl, hb⟩; refine ⟨_, rfl, ?_⟩; have n0_ := Aside0.mk (Kd.R_below (by (with_reducible repeat (first | apply Kd.R_alloc | apply Kd.R_drewN | apply Kd.R_drew)); exact HO103.out) hb); have n1_ := Aside0.mk (below_step (by repeat (first | (with_reducible first | exact HB.out | apply below_alloc | apply pw_below_drewN | apply below_drew1) | exact HB.out)) hb); clear HO103; clear HB; have HO103 := n0_; have HB := n1_; clear n0_ n1_; (try clear hb); (try clear hb2); (try clear hk); (try clear hi)))
        go_ret
        exact ⟨by first | rfl | (simp [errW_none, errW_some] <;> rfl) | (simp [*, errW_none, errW_some] <;> rfl), by repeat (first | (with_reducible first | exact HB.out | apply below_alloc | apply pw_below_drewN | apply below_drew1) | exact HB.out)⟩
    · rw [if_neg c5] at H
      have c5b0 : (t105 == 0) = false := beq_eq_false_iff_ne.mpr c5
      have c5b1 : (t105 != 0) = true := bne_iff_ne.mpr c5
      obtain rfl := Option.some.inj H
      go_enter Tryd.func39, Tryd.ntmps39
      go_wp2_with (first | ((with_reducible refine gate_dst (N := 11) rfl ?_); refine Kd.R_lit k26 _ 26 ?hg (N := 11) ?hd (xs := ([(⟨1, 1, (⟨#[]⟩ : ByteArray)⟩ : S26), (⟨2, 0, (⟨#[120]⟩ : ByteArray)⟩ : S26), (⟨3, 1, (⟨#[]⟩ : ByteArray)⟩ : S26)] : List (S26))) (inner := [.int .i64 1, .int .i64 1, .string (⟨#[]⟩ : ByteArray), .int .i64 2, .int .i64 0, .string (⟨#[120]⟩ : ByteArray), .int .i64 3, .int .i64 1, .string (⟨#[]⟩ : ByteArray)]) (ok := fun _ => True) (okp := fun _ => True) ?hr ?hp (fun _ hk => hk) trivial (Below.refl _ _) (Nat.le_refl _) (by simp) ?_; (case hd => rfl); (case hg => rfl); (case hr => first | (go_simp; done) | (go_simp; rfl)); (case hp => exact (Reps.c3 (show Kd.M k26 _ _ _ (⟨1, 1, (⟨#[]⟩ : ByteArray)⟩ : S26) [.int .i64 1, .int .i64 1, .string (⟨#[]⟩ : ByteArray)] from (k26_mkM _ _ _ (⟨1, 1, (⟨#[]⟩ : ByteArray)⟩ : S26) )) (Reps.c3 (show Kd.M k26 _ _ _ (⟨2, 0, (⟨#[120]⟩ : ByteArray)⟩ : S26) [.int .i64 2, .int .i64 0, .string (⟨#[120]⟩ : ByteArray)] from (k26_mkM _ _ _ (⟨2, 0, (⟨#[120]⟩ : ByteArray)⟩ : S26) )) (Reps.c3 (show Kd.M k26 _ _ _ (⟨3, 1, (⟨#[]⟩ : ByteArray)⟩ : S26) [.int .i64 3, .int .i64 1, .string (⟨#[]⟩ : ByteArray)] from (k26_mkM _ _ _ (⟨3, 1, (⟨#[]⟩ : ByteArray)⟩ : S26) )) (Reps.none _ _))))); intro v102 w33 ho34 hb hg_ hnew_; clear hg_ hnew_; (first | rw [← Ny101.out] at ho34 | (simp only [Int.reduceToNat] at ho34; rw [← Ny101.out] at ho34)); have n0_ := Aside0.mk (Kd.R_lower ho34 (below_size (by repeat (first | (with_reducible first | exact HB.out | apply below_alloc | apply pw_below_drewN | apply below_drew1) | exact HB.out)))); have n1_ := Aside0.mk (below_step (by repeat (first | (with_reducible first | exact HB.out | apply below_alloc | apply pw_below_drewN | apply below_drew1) | exact HB.out)) hb); clear HB; have HO103 := n0_; have HB := n1_; clear n0_ n1_; clear hb ho34; obtain ⟨Ao35, co35, eo35⟩ := Kd.R_slice HO103.out; subst eo35) | ((with_reducible refine gate_callee (f := 33) rfl ?_); refine goesL_ (some 14) rfl rfl Tryd.func33 (by kernel_rfl) rfl #[.slice Ao35 y101.length co35, .int .i64 1] rfl (by (try simp only [List.map_toArray, List.map_cons, List.map_nil]); first | done | rfl | (simp only [List.length_drop, List.length_take]; rfl)) ?_; (with_reducible refine (place_Where.calls k _ _ y101 1 t104 t105 _ ?side1 ?side2 ?side3 A1.out).mono ?_); (case side1 => first | (with_reducible exact HG.out) | exact Glob.below HG.out (by repeat (first | (with_reducible first | exact HB.out | apply below_alloc | apply pw_below_drewN | apply below_drew1) | exact HB.out)) | exact Glob.drawn HG.out (by repeat (first | exact Drawn0.refl _ | apply Drawn0.step))); (case side2 => repeat (first | exact (Kd.R_reads' HO103.out).2.2 | (with_reducible refine Kd.C_alloc ?_ _) | (with_reducible refine Kd.C_drewN ?_ _) | (with_reducible refine Kd.C_drew ?_))); (case side3 => exact (Kd.R_reads' HO103.out).2.1); rintro e w36 ⟨rfl, hb⟩; refine ⟨_, rfl, ?_⟩; have n0_ := Aside0.mk (Kd.R_below (by (with_reducible repeat (first | apply Kd.R_alloc | apply Kd.R_drewN | apply Kd.R_drew)); exact HO103.out) hb); have n1_ := Aside0.mk (below_step (by repeat (first | (with_reducible first | exact HB.out | apply below_alloc | apply pw_below_drewN | apply below_drew1) | exact HB.out)) hb); clear HO103; clear HB; have HO103 := n0_; have HB := n1_; clear n0_ n1_; (try clear hb); (try clear hb2); (try clear hk); (try clear hi); (try clear A1)) | ((with_reducible refine gate_callee (f := 33) rfl ?_); refine goesL_ (some 19) rfl rfl Tryd.func33 (by kernel_rfl) rfl #[.slice Ao35 y101.length co35, .int .i64 2] rfl (by (try simp only [List.map_toArray, List.map_cons, List.map_nil]); first | done | rfl | (simp only [List.length_drop, List.length_take]; rfl)) ?_; (with_reducible refine (place_Where.calls k _ _ y101 2 t106 t107 _ ?side1 ?side2 ?side3 A2.out).mono ?_); (case side1 => first | (with_reducible exact HG.out) | exact Glob.below HG.out (by repeat (first | (with_reducible first | exact HB.out | apply below_alloc | apply pw_below_drewN | apply below_drew1) | exact HB.out)) | exact Glob.drawn HG.out (by repeat (first | exact Drawn0.refl _ | apply Drawn0.step))); (case side2 => repeat (first | exact (Kd.R_reads' HO103.out).2.2 | (with_reducible refine Kd.C_alloc ?_ _) | (with_reducible refine Kd.C_drewN ?_ _) | (with_reducible refine Kd.C_drew ?_))); (case side3 => exact (Kd.R_reads' HO103.out).2.1); rintro e w37 ⟨rfl, hb⟩; refine ⟨_, rfl, ?_⟩; have n0_ := Aside0.mk (Kd.R_below (by (with_reducible repeat (first | apply Kd.R_alloc | apply Kd.R_drewN | apply Kd.R_drew)); exact HO103.out) hb); have n1_ := Aside0.mk (below_step (by repeat (first | (with_reducible first | exact HB.out | apply below_alloc | apply pw_below_drewN | apply below_drew1) | exact HB.out)) hb); clear HO103; clear HB; have HO103 := n0_; have HB := n1_; clear n0_ n1_; (try clear hb); (try clear hb2); (try clear hk); (try clear hi); (try clear A2)) | ((with_reducible refine gate_callee (f := 76) rfl ?_); refine goesL_ (some 24) rfl rfl Tryd.func76 (by kernel_rfl) rfl #[.slice Ao35 y101.length co35, .int .i64 2] rfl (by (try simp only [List.map_toArray, List.map_cons, List.map_nil]); first | done | rfl | (simp only [List.length_drop, List.length_take]; rfl)) ?_; (with_reducible refine (place_Least.calls k _ _ y101 2 t108 t109 _ ?side1 ?side2 ?side3 A3.out).mono ?_); (case side1 => first | (with_reducible exact HG.out) | exact Glob.below HG.out (by repeat (first | (with_reducible first | exact HB.out | apply below_alloc | apply pw_below_drewN | apply below_drew1) | exact HB.out)) | exact Glob.drawn HG.out (by repeat (first | exact Drawn0.refl _ | apply Drawn0.step))); (case side2 => repeat (first | exact (Kd.R_reads' HO103.out).2.2 | (with_reducible refine Kd.C_alloc ?_ _) | (with_reducible refine Kd.C_drewN ?_ _) | (with_reducible refine Kd.C_drew ?_))); (case side3 => exact (Kd.R_reads' HO103.out).2.1); rintro e w38 ⟨rfl, hb⟩; refine ⟨_, rfl, ?_⟩; have n0_ := Aside0.mk (Kd.R_below (by (with_reducible repeat (first | apply Kd.R_alloc | apply Kd.R_drewN | apply Kd.R_drew)); exact HO103.out) hb); have n1_ := Aside0.mk (below_step (by repeat (first | (with_reducible first | exact HB.out | apply below_alloc | apply pw_below_drewN | apply below_drew1) | exact HB.out)) hb); clear HO103; clear HB; have HO103 := n0_; have HB := n1_; clear n0_ n1_; (try clear hb); (try clear hb2); (try clear hk); (try clear hi)))
      go_ret
      exact ⟨by first | rfl | (simp [errW_none, errW_some] <;> rfl) | (simp [*, errW_none, errW_some] <;> rfl), by repeat (first | (with_reducible first | exact HB.out | apply below_alloc | apply pw_below_drewN | apply below_drew1) | exact HB.out)⟩
  · rw [if_neg c4] at H
    have c4b0 : (t104 == 2) = false := beq_eq_false_iff_ne.mpr c4
    have c4b1 : (t104 != 2) = true := bne_iff_ne.mpr c4
    obtain rfl := Option.some.inj H
    go_enter Tryd.func39, Tryd.ntmps39
    go_wp2_with (first | ((with_reducible refine gate_dst (N := 11) rfl ?_); refine Kd.R_lit k26 _ 26 ?hg (N := 11) ?hd (xs := ([(⟨1, 1, (⟨#[]⟩ : ByteArray)⟩ : S26), (⟨2, 0, (⟨#[120]⟩ : ByteArray)⟩ : S26), (⟨3, 1, (⟨#[]⟩ : ByteArray)⟩ : S26)] : List (S26))) (inner := [.int .i64 1, .int .i64 1, .string (⟨#[]⟩ : ByteArray), .int .i64 2, .int .i64 0, .string (⟨#[120]⟩ : ByteArray), .int .i64 3, .int .i64 1, .string (⟨#[]⟩ : ByteArray)]) (ok := fun _ => True) (okp := fun _ => True) ?hr ?hp (fun _ hk => hk) trivial (Below.refl _ _) (Nat.le_refl _) (by simp) ?_; (case hd => rfl); (case hg => rfl); (case hr => first | (go_simp; done) | (go_simp; rfl)); (case hp => exact (Reps.c3 (show Kd.M k26 _ _ _ (⟨1, 1, (⟨#[]⟩ : ByteArray)⟩ : S26) [.int .i64 1, .int .i64 1, .string (⟨#[]⟩ : ByteArray)] from (k26_mkM _ _ _ (⟨1, 1, (⟨#[]⟩ : ByteArray)⟩ : S26) )) (Reps.c3 (show Kd.M k26 _ _ _ (⟨2, 0, (⟨#[120]⟩ : ByteArray)⟩ : S26) [.int .i64 2, .int .i64 0, .string (⟨#[120]⟩ : ByteArray)] from (k26_mkM _ _ _ (⟨2, 0, (⟨#[120]⟩ : ByteArray)⟩ : S26) )) (Reps.c3 (show Kd.M k26 _ _ _ (⟨3, 1, (⟨#[]⟩ : ByteArray)⟩ : S26) [.int .i64 3, .int .i64 1, .string (⟨#[]⟩ : ByteArray)] from (k26_mkM _ _ _ (⟨3, 1, (⟨#[]⟩ : ByteArray)⟩ : S26) )) (Reps.none _ _))))); intro v102 w39 ho40 hb hg_ hnew_; clear hg_ hnew_; (first | rw [← Ny101.out] at ho40 | (simp only [Int.reduceToNat] at ho40; rw [← Ny101.out] at ho40)); have n0_ := Aside0.mk (Kd.R_lower ho40 (below_size (by repeat (first | (with_reducible first | exact HB.out | apply below_alloc | apply pw_below_drewN | apply below_drew1) | exact HB.out)))); have n1_ := Aside0.mk (below_step (by repeat (first | (with_reducible first | exact HB.out | apply below_alloc | apply pw_below_drewN | apply below_drew1) | exact HB.out)) hb); clear HB; have HO103 := n0_; have HB := n1_; clear n0_ n1_; clear hb ho40; obtain ⟨Ao41, co41, eo41⟩ := Kd.R_slice HO103.out; subst eo41) | ((with_reducible refine gate_callee (f := 33) rfl ?_); refine goesL_ (some 14) rfl rfl Tryd.func33 (by kernel_rfl) rfl #[.slice Ao41 y101.length co41, .int .i64 1] rfl (by (try simp only [List.map_toArray, List.map_cons, List.map_nil]); first | done | rfl | (simp only [List.length_drop, List.length_take]; rfl)) ?_; (with_reducible refine (place_Where.calls k _ _ y101 1 t104 t105 _ ?side1 ?side2 ?side3 A1.out).mono ?_); (case side1 => first | (with_reducible exact HG.out) | exact Glob.below HG.out (by repeat (first | (with_reducible first | exact HB.out | apply below_alloc | apply pw_below_drewN | apply below_drew1) | exact HB.out)) | exact Glob.drawn HG.out (by repeat (first | exact Drawn0.refl _ | apply Drawn0.step))); (case side2 => repeat (first | exact (Kd.R_reads' HO103.out).2.2 | (with_reducible refine Kd.C_alloc ?_ _) | (with_reducible refine Kd.C_drewN ?_ _) | (with_reducible refine Kd.C_drew ?_))); (case side3 => exact (Kd.R_reads' HO103.out).2.1); rintro e w42 ⟨rfl, hb⟩; refine ⟨_, rfl, ?_⟩; have n0_ := Aside0.mk (Kd.R_below (by (with_reducible repeat (first | apply Kd.R_alloc | apply Kd.R_drewN | apply Kd.R_drew)); exact HO103.out) hb); have n1_ := Aside0.mk (below_step (by repeat (first | (with_reducible first | exact HB.out | apply below_alloc | apply pw_below_drewN | apply below_drew1) | exact HB.out)) hb); clear HO103; clear HB; have HO103 := n0_; have HB := n1_; clear n0_ n1_; (try clear hb); (try clear hb2); (try clear hk); (try clear hi); (try clear A1)) | ((with_reducible refine gate_callee (f := 33) rfl ?_); refine goesL_ (some 19) rfl rfl Tryd.func33 (by kernel_rfl) rfl #[.slice Ao41 y101.length co41, .int .i64 2] rfl (by (try simp only [List.map_toArray, List.map_cons, List.map_nil]); first | done | rfl | (simp only [List.length_drop, List.length_take]; rfl)) ?_; (with_reducible refine (place_Where.calls k _ _ y101 2 t106 t107 _ ?side1 ?side2 ?side3 A2.out).mono ?_); (case side1 => first | (with_reducible exact HG.out) | exact Glob.below HG.out (by repeat (first | (with_reducible first | exact HB.out | apply below_alloc | apply pw_below_drewN | apply below_drew1) | exact HB.out)) | exact Glob.drawn HG.out (by repeat (first | exact Drawn0.refl _ | apply Drawn0.step))); (case side2 => repeat (first | exact (Kd.R_reads' HO103.out).2.2 | (with_reducible refine Kd.C_alloc ?_ _) | (with_reducible refine Kd.C_drewN ?_ _) | (with_reducible refine Kd.C_drew ?_))); (case side3 => exact (Kd.R_reads' HO103.out).2.1); rintro e w43 ⟨rfl, hb⟩; refine ⟨_, rfl, ?_⟩; have n0_ := Aside0.mk (Kd.R_below (by (with_reducible repeat (first | apply Kd.R_alloc | apply Kd.R_drewN | apply Kd.R_drew)); exact HO103.out) hb); have n1_ := Aside0.mk (below_step (by repeat (first | (with_reducible first | exact HB.out | apply below_alloc | apply pw_below_drewN | apply below_drew1) | exact HB.out)) hb); clear HO103; clear HB; have HO103 := n0_; have HB := n1_; clear n0_ n1_; (try clear hb); (try clear hb2); (try clear hk); (try clear hi); (try clear A2)) | ((with_reducible refine gate_callee (f := 76) rfl ?_); refine goesL_ (some 24) rfl rfl Tryd.func76 (by kernel_rfl) rfl #[.slice Ao41 y101.length co41, .int .i64 2] rfl (by (try simp only [List.map_toArray, List.map_cons, List.map_nil]); first | done | rfl | (simp only [List.length_drop, List.length_take]; rfl)) ?_; (with_reducible refine (place_Least.calls k _ _ y101 2 t108 t109 _ ?side1 ?side2 ?side3 A3.out).mono ?_); (case side1 => first | (with_reducible exact HG.out) | exact Glob.below HG.out (by repeat (first | (with_reducible first | exact HB.out | apply below_alloc | apply pw_below_drewN | apply below_drew1) | exact HB.out)) | exact Glob.drawn HG.out (by repeat (first | exact Drawn0.refl _ | apply Drawn0.step))); (case side2 => repeat (first | exact (Kd.R_reads' HO103.out).2.2 | (with_reducible refine Kd.C_alloc ?_ _) | (with_reducible refine Kd.C_drewN ?_ _) | (with_reducible refine Kd.C_drew ?_))); (case side3 => exact (Kd.R_reads' HO103.out).2.1); rintro e w44 ⟨rfl, hb⟩; refine ⟨_, rfl, ?_⟩; have n0_ := Aside0.mk (Kd.R_below (by (with_reducible repeat (first | apply Kd.R_alloc | apply Kd.R_drewN | apply Kd.R_drew)); exact HO103.out) hb); have n1_ := Aside0.mk (below_step (by repeat (first | (with_reducible first | exact HB.out | apply below_alloc | apply pw_below_drewN | apply below_drew1) | exact HB.out)) hb); clear HO103; clear HB; have HO103 := n0_; have HB := n1_; clear n0_ n1_; (try clear hb); (try clear hb2); (try clear hk); (try clear hi)))
    go_ret
    exact ⟨by first | rfl | (simp [errW_none, errW_some] <;> rfl) | (simp [*, errW_none, errW_some] <;> rfl), by repeat (first | (with_reducible first | exact HB.out | apply below_alloc | apply pw_below_drewN | apply below_drew1) | exact HB.out)⟩
end Go.Proofs.YtkefbljogjcodaaDoor.F
end
section
namespace Go.Proofs.YtkefbljogjcodaaDoor.F
open Go.RowKit Go.Proofs.YtkefbljogjcodaaDoorW.PrintWords Go.Proofs.YtkefbljogjcodaaDoorW.PrintLast Go.Proofs.YtkefbljogjcodaaDoorW.PrintMore
attribute [local go_sem] max2_int min2_int max_two min_two max_three min_three max_four min_four cell_setCell_isSome
set_option linter.unusedVariables false
set_option linter.unusedSimpArgs false
def epitomeref01_size.j0 : Nat → Int → Bool → Option (Int)
  | 0, _, _ => none
  | k + 1, x0, x16 => if x16 = true then (some 0) else (if x0 < 128 then (some 1) else (if x0 < 2048 then (some 2) else (if x0 < 65536 then (some 3) else (some 4))))
def epitomeref01_size.f (k : Nat) (a0 : Int) : Option (Int) := if a0 < 0 then (epitomeref01_size.j0 k a0 true) else (if a0 > 1114111 then (epitomeref01_size.j0 k a0 true) else (if a0 ≥ 55296 then (epitomeref01_size.j0 k a0 (decide (a0 ≤ 57343))) else (epitomeref01_size.j0 k a0 false)))
set_option maxHeartbeats 8000000 in
set_option maxRecDepth 100000 in
theorem epitomeref01_size.calls (k : Nat) (a0 : Int) (r : Int) (w : World) (h : epitomeref01_size.f k a0 = some r) :
    Calls Tryd.prog 81 #[.int .i64 a0] w fun e w' => e = .returned (.int .i64 r) ∧ Drawn0 w w' := by
  have H : (if a0 < 0 then (epitomeref01_size.j0 k a0 true) else (if a0 > 1114111 then (epitomeref01_size.j0 k a0 true) else (if a0 ≥ 55296 then (epitomeref01_size.j0 k a0 (decide (a0 ≤ 57343))) else (epitomeref01_size.j0 k a0 false)))) = some r := h
  clear h
  have HC2 := Aside0.mk H
  clear H
  go_enter Tryd.func81, Tryd.ntmps81
  go_upto_region 1 with (fail)
  go_cut [16] (fun v16 wc => ∃ (kq : Nat) (x16_1 : Bool), v16 = .bool x16_1 ∧ Aside0 (epitomeref01_size.j0 kq a0 x16_1 = some r) ∧ Aside0 (kq ≤ k) ∧ Drawn0 w wc)
  case first =>
    have H := HC2.out
    clear HC2
    by_cases c3 : a0 < 0
    · rw [if_pos c3] at H
      have c3b0 : decide (a0 < 0) = true := decide_eq_true c3
      clear c3
      (first | rw [c3b0] | (simp only [i64_w, i32_w]; rw [c3b0]) | skip)
      have H' := Aside0.mk H
      clear H
      go_wp2
      go_meet
      case rel => exact ⟨_, (true), (by first | rfl | (simp; done) | (simp [*]; done)), H', ⟨by first | omega | exact Nat.le_refl _⟩, by repeat (first | exact Drawn0.refl _ | apply Drawn0.step)⟩
    · rw [if_neg c3] at H
      have c3b0 : decide (a0 < 0) = false := decide_eq_false c3
      clear c3
      (first | rw [c3b0] | (simp only [i64_w, i32_w]; rw [c3b0]) | skip)
      by_cases c4 : a0 > 1114111
      · rw [if_pos c4] at H
        have c4b0 : decide (1114111 < a0) = true := decide_eq_true c4
        clear c4
        have H' := Aside0.mk H
        clear H
        go_wp2
        go_meet
        case rel => exact ⟨_, (true), (by first | rfl | (simp; done) | (simp [*]; done)), H', ⟨by first | omega | exact Nat.le_refl _⟩, by repeat (first | exact Drawn0.refl _ | apply Drawn0.step)⟩
      · rw [if_neg c4] at H
        have c4b0 : decide (1114111 < a0) = false := decide_eq_false c4
        clear c4
        by_cases c5 : a0 ≥ 55296
        · rw [if_pos c5] at H
          have c5b0 : decide (55296 ≤ a0) = true := decide_eq_true c5
          clear c5
          have H' := Aside0.mk H
          clear H
          go_wp2
          go_meet
          case rel => exact ⟨_, (decide (a0 ≤ 57343)), (by first | rfl | (simp; done) | (simp [*]; done)), H', ⟨by first | omega | exact Nat.le_refl _⟩, by repeat (first | exact Drawn0.refl _ | apply Drawn0.step)⟩
        · rw [if_neg c5] at H
          have c5b0 : decide (55296 ≤ a0) = false := decide_eq_false c5
          clear c5
          have H' := Aside0.mk H
          clear H
          go_wp2
          go_meet
          case rel => exact ⟨_, (false), (by first | rfl | (simp; done) | (simp [*]; done)), H', ⟨by first | omega | exact Nat.le_refl _⟩, by repeat (first | exact Drawn0.refl _ | apply Drawn0.step)⟩
  case rest =>
    clear HC2
    try clear p2
    try clear c3
    try clear c3b0
    try clear c4
    try clear c4b0
    try clear c5
    try clear c5b0
    obtain ⟨kq, x16_1, rfl, HA, HJ1, ⟨mc1, rfl⟩⟩ := hcut
    cases kq with
    | zero => exact absurd HA.out (by simp [epitomeref01_size.j0])
    | succ kj1 =>
      have H := HA.out
      clear HA
      simp only [epitomeref01_size.j0] at H
      by_cases c6 : x16_1 = true
      · subst c6
        have H1 : (some 0) = some r := by rw [if_pos rfl] at H; exact H
        clear H
        have H := H1
        clear H1
        obtain rfl := Option.some.inj H
        go_wp2
        go_ret
        exact ⟨by first | rfl | (simp; done) | (simp [*]; done), by repeat (first | exact Drawn0.refl _ | apply Drawn0.step)⟩
      · replace c6 := Bool.eq_false_iff.mpr c6
        subst c6
        have H1 : (if a0 < 128 then (some 1) else (if a0 < 2048 then (some 2) else (if a0 < 65536 then (some 3) else (some 4)))) = some r := by rw [if_neg (show ¬ (false = true) by decide)] at H; exact H
        clear H
        have H := H1
        clear H1
        by_cases c7 : a0 < 128
        · rw [if_pos c7] at H
          have c7b0 : decide (a0 < 128) = true := decide_eq_true c7
          clear c7
          obtain rfl := Option.some.inj H
          go_wp2
          go_ret
          exact ⟨by first | rfl | (simp; done) | (simp [*]; done), by repeat (first | exact Drawn0.refl _ | apply Drawn0.step)⟩
        · rw [if_neg c7] at H
          have c7b0 : decide (a0 < 128) = false := decide_eq_false c7
          clear c7
          by_cases c8 : a0 < 2048
          · rw [if_pos c8] at H
            have c8b0 : decide (a0 < 2048) = true := decide_eq_true c8
            clear c8
            obtain rfl := Option.some.inj H
            go_wp2
            go_ret
            exact ⟨by first | rfl | (simp; done) | (simp [*]; done), by repeat (first | exact Drawn0.refl _ | apply Drawn0.step)⟩
          · rw [if_neg c8] at H
            have c8b0 : decide (a0 < 2048) = false := decide_eq_false c8
            clear c8
            by_cases c9 : a0 < 65536
            · rw [if_pos c9] at H
              have c9b0 : decide (a0 < 65536) = true := decide_eq_true c9
              clear c9
              obtain rfl := Option.some.inj H
              go_wp2
              go_ret
              exact ⟨by first | rfl | (simp; done) | (simp [*]; done), by repeat (first | exact Drawn0.refl _ | apply Drawn0.step)⟩
            · rw [if_neg c9] at H
              have c9b0 : decide (a0 < 65536) = false := decide_eq_false c9
              clear c9
              obtain rfl := Option.some.inj H
              go_wp2
              go_ret
              exact ⟨by first | rfl | (simp; done) | (simp [*]; done), by repeat (first | exact Drawn0.refl _ | apply Drawn0.step)⟩
end Go.Proofs.YtkefbljogjcodaaDoor.F
end
