import Derived.Test.YtkgicpnnlkcaeaaDoorKZGapsAllA
import Derived.Below
import Derived.Deep.Draws
import Derived.Deep.AppendLies
import Derived.Maps.AppendAt
import Derived.OwnWalk
import Derived.Laws.BytesArg
import Derived.Laws.MakeOwn
import Derived.Laws.OwnMore
import Derived.Deep.OwnRows
import Derived.Tactics
import Derived.Lib.ConvBytes
import Derived.Laws.Slices
import Derived.WalkKit
import Derived.KernelRfl
import Derived.RowKit3
import Derived.Deep.LoopGhost
import Derived.Deep.QuietTactic
import Derived.BigQuiet
import Derived.WideLaws
import Derived.Deep.DeepCutAuto
import Derived.Deep.CutBlock
import Derived.Deep.RegionHeld3
import Derived.Laws.Rows
import Derived.Lib.AppendStr
import Derived.ArgAppend
import Derived.Laws.IdiomCopy
import Derived.RowKit
import Derived.OrdersHeld
import Derived.Laws.BitsLemmas
import Derived.Laws.StructEq
import Derived.Test.YtkgicpnnlkcaeaaDoorProg
import Derived.Handy
import Derived.Shelf.Unicode.DecodeSlow
import Derived.Ground.NamesProg
import Derived.Shelf.Unicode.ValidAny
import Derived.Maps.OwnOps
import Derived.Maps.Views
section
namespace Go.Proofs.YtkgicpnnlkcaeaaDoor.F
open Go.RowKit Go.Proofs.YtkgicpnnlkcaeaaDoorW.PrintWords Go.Proofs.YtkgicpnnlkcaeaaDoorW.PrintLast Go.Proofs.YtkgicpnnlkcaeaaDoorW.PrintMore
attribute [local go_sem] max2_int min2_int max_two min_two max_three min_three max_four min_four
set_option linter.unusedVariables false
set_option linter.unusedSimpArgs false
def errW : Option Int → Value
  | none => .nilIface
  | some c => .iface 0 (.int .i64 c)
theorem errW_none : errW none = .nilIface := rfl
theorem errW_some (c : Int) : errW (some c) = .iface 0 (.int .i64 c) := rfl
theorem info3 : (Tryd.prog.info? 3).map (fun i => (i.zero, i.size, i.bytes)) = some (some (.int .i64 0), 1, 8) := by kernel_rfl
theorem info4 : (Tryd.prog.info? 4).map (fun i => (i.zero, i.size, i.bytes)) = some (some (.bool false), 1, 1) := by kernel_rfl
theorem info9 : (Tryd.prog.info? 9).map (fun i => (i.zero, i.size, i.bytes)) = some (some (.string ⟨#[]⟩), 1, 16) := by kernel_rfl
theorem info33 : (Tryd.prog.info? 33).map (fun i => (i.zero, i.size, i.bytes)) = some (some (.agg #[(.int .i64 0), (.int .i64 0), (.string ⟨#[]⟩)]), 3, 32) := by kernel_rfl
theorem Am {p : Prop} (h : p) : Aside0 p := Aside0.mk h
theorem cell_setCell_isSome (w : World) (a b : Addr) (v : Value) : ((w.setCell a v).cell? b).isSome = (w.cell? b).isSome := by
  unfold World.setCell World.cell?
  rw [Array.getElem?_modify]
  cases hh : w.heap[b.block]? with
  | none => by_cases h : a.block = b.block <;> simp [h]
  | some o =>
    by_cases h : a.block = b.block
    · cases o with
      | cells c e f =>
        cases hs : b.spot <;> cases hs2 : a.spot <;> simp [h, Array.getElem?_setIfInBounds]
        split
        · next he =>
          by_cases hb : b.off < c.size
          · simp [he, hb]
          · simp [he, hb]
        · rfl
      | _ => simp [h]
    · simp [h]
theorem isEmpty_bne (l : List UInt8) : (l != []) = !l.isEmpty := by cases l <;> rfl
theorem eqb_r {a b v : Bool} (h : (a == b) = true) (ha : a = v) : b = v := by cases a <;> cases b <;> simp_all
theorem eqb_l {a b v : Bool} (h : (a == b) = true) (hb : b = v) : a = v := by cases a <;> cases b <;> simp_all
theorem neb_r {a b v : Bool} (h : (a == b) = false) (ha : a = v) : b = !v := by cases a <;> cases b <;> simp_all
theorem neb_l {a b v : Bool} (h : (a == b) = false) (hb : b = v) : a = !v := by cases a <;> cases b <;> simp_all
structure S33 where
  f0 : Int
  f1 : Int
  f2 : ByteArray
def z33 : S33 := ⟨(0 : Int), (0 : Int), (⟨#[]⟩ : ByteArray)⟩
def k33 : Kd S33 := Kd.iso (Kd.pair (Kd.int .i64) (Kd.pair (Kd.int .i64) Kd.string)) (fun x : S33 => (x.f0, x.f1, x.f2))
theorem k33_open {w : World} {x : S33} {cs : List Value} (h : k33.K w x cs) : cs = [.int .i64 x.f0, .int .i64 x.f1, .string x.f2] := by
  obtain ⟨_, _, rfl, rfl, ⟨_, _, rfl, rfl, rfl⟩⟩ := h
  exact rfl
theorem k33_openM {w : World} {base : Nat} {ok : Nat → Prop} {x : S33} {cs : List Value} (h : k33.M w base ok x cs) : cs = [.int .i64 x.f0, .int .i64 x.f1, .string x.f2] := by
  obtain ⟨_, _, rfl, rfl, ⟨_, _, rfl, rfl, rfl⟩⟩ := h
  exact rfl
theorem k33_mkM (w : World) (base : Nat) (ok : Nat → Prop) (x : S33)  : k33.M w base ok x [.int .i64 x.f0, .int .i64 x.f1, .string x.f2] := ⟨[.int .i64 x.f0], [.int .i64 x.f1, .string x.f2], rfl, rfl, ⟨[.int .i64 x.f1], [.string x.f2], rfl, rfl, rfl⟩⟩
def rd_T33 (xs : List S33) (i : Int) : S33 := xs.getD i.toNat z33
theorem at_T33 {w : World} {A : Option Addr} {n : Nat} {xs : List S33} (h : Kd.C k33 w A n xs) (i : Int) (h0 : 0 ≤ i) (h1 : i < n) : ∃ ad , A = some ad ∧ w.cell? (ad.add (i.toNat * 3)) = some (.int .i64 (rd_T33 xs i).f0) ∧ w.cell? ⟨(ad.add (i.toNat * 3)).block, (ad.add (i.toNat * 3)).off + 1, none⟩ = some (.int .i64 (rd_T33 xs i).f1) ∧ w.cell? ⟨(ad.add (i.toNat * 3)).block, (ad.add (i.toNat * 3)).off + 2, none⟩ = some (.string (rd_T33 xs i).f2) := by
  obtain ⟨ad, c, e, _, hK, hc0⟩ := Kd.C_get h z33 i h0 h1
  have hc : ∀ j u, c[j]? = some u → w.cell? (ad.add (i.toNat * 3 + j)) = some u := hc0
  obtain rfl := k33_open hK
  exact ⟨ad, e, hc 0 _ rfl, by rw [← add_field _ _ 1 (by omega)]; exact hc 1 _ rfl, by rw [← add_field _ _ 2 (by omega)]; exact hc 2 _ rfl⟩
structure S28 where
  f0 : (List ByteArray)
  f1 : (List Bool)
def k28 : Kd S28 := Kd.iso (Kd.pair (Kd.slice 9 Kd.string) (Kd.slice 4 Kd.bool)) (fun x : S28 => (x.f0, x.f1))
end Go.Proofs.YtkgicpnnlkcaeaaDoor.F
end
section
namespace Go.Proofs.YtkgicpnnlkcaeaaDoor.F
open Go.RowKit Go.Proofs.YtkgicpnnlkcaeaaDoorW.PrintWords Go.Proofs.YtkgicpnnlkcaeaaDoorW.PrintLast Go.Proofs.YtkgicpnnlkcaeaaDoorW.PrintMore
attribute [local go_sem] max2_int min2_int max_two min_two max_three min_three max_four min_four cell_setCell_isSome
set_option linter.unusedVariables false
set_option linter.unusedSimpArgs false
def epitomelaw06_few.l0 : Nat → Int → List ByteArray → List Bool → List ByteArray → List Bool → Option (List ByteArray × List Bool)
  | 0, _, _, _, _, _ => none
  | k + 1, x4, x102000, x102001, x109000, x109001 => if x4 < (x102000.length : Int) then (if x4 < 41 then (if 0 ≤ x4 then (if 0 ≤ (mn ((rdOf ByteArray.empty x102000 x4).size : Int) 20) then (if (mn ((rdOf ByteArray.empty x102000 x4).size : Int) 20) ≤ ((rdOf ByteArray.empty x102000 x4).size : Int) then (if x109000.length < 8796093022208 then (epitomelaw06_few.l0 k (wrap64 (x4 + 1)) x102000 x102001 (x109000 ++ [(rdOf ByteArray.empty x102000 x4).extract 0 ((mn ((rdOf ByteArray.empty x102000 x4).size : Int) 20) : Int).toNat]) x109001) else (none)) else (none)) else (none)) else (none)) else (some (x109000, x109001))) else (some (x109000, x109001))
def epitomelaw06_few.f (k : Nat) (l0_0 : List ByteArray) (l0_1 : List Bool) : Option (List ByteArray × List Bool) := if 0 ≤ (mn (l0_1.length : Int) 40) then (if (mn (l0_1.length : Int) 40) ≤ (l0_1.length : Int) then (epitomelaw06_few.l0 k 0 l0_0 l0_1 ([] : List ByteArray) (l0_1.take ((mn (l0_1.length : Int) 40) : Int).toNat)) else (none)) else (none)
def epitomelaw06_few.T5 : Bool × List (List Nat × List Nat) := (true, [([], []), ([0], [0]), ([], []), ([2], [2]), ([], []), ([3, 4], [3, 4]), ([5], [5]), ([], []), ([7], [7]), ([], []), ([8, 9], [8, 9]), ([10], [10]), ([11], [11]), ([12], [12]), ([6, 13], [6, 13]), ([14], [14]), ([1, 15], [1, 15]), ([0, 1, 2, 3, 4, 5, 6, 7, 8, 9, 10, 11, 12, 13, 14, 15, 16], []), ([17, 16, 16, 0, 1, 2, 3, 4, 5, 6, 7, 8, 9, 10, 11, 12, 13, 14, 15, 16], [16, 17])])
def epitomelaw06_few.B5 : List Nat := [0, 1, 0, 4, 0, 28, 60, 0, 128, 0, 896, 1920, 3968, 8064, 16380, 32764, 65535, 131071, 262143]
theorem epitomelaw06_few.tab5 : rtab .any (opsOf Tryd.f31 5) = epitomelaw06_few.T5 := by kernel_rfl
theorem epitomelaw06_few.bits5 : waitsOk epitomelaw06_few.T5.2 epitomelaw06_few.B5 = true := by kernel_rfl
set_option maxHeartbeats 8000000 in
set_option maxRecDepth 100000 in
theorem epitomelaw06_few.calls (k : Nat) (A0_0 : Option Addr) (c0_0 : Nat) (l0_0 : List ByteArray) (P0_1_ : Nat → Prop) (A0_1 : Option Addr) (c0_1 : Nat) (l0_1 : List Bool) (r1 : List ByteArray) (r2 : List Bool) (w : World) (hr0_0 : Kd.C Kd.string w A0_0 l0_0.length l0_0) (hc0_0 : l0_0.length ≤ c0_0) (hs0_1 : Kd.V Kd.bool 4 w w.heap.size (fun k_ => P0_1_ k_) (.slice A0_1 l0_1.length c0_1) l0_1) (h : epitomelaw06_few.f k l0_0 l0_1 = some (r1, r2)) :
    Calls Tryd.prog 31 #[.agg #[.slice A0_0 l0_0.length c0_0, .slice A0_1 l0_1.length c0_1]] w fun e w' => ∃ v0_ v1_ : Value, e = .returned (.agg #[v0_, v1_]) ∧ Kd.R Kd.string 9 w' w.heap.size (fun k_ => (w.heap.size ≤ k_)) v0_ r1 ∧ Kd.V Kd.bool 4 w' w.heap.size (fun k_ => (P0_1_ k_ ∨ w.heap.size ≤ k_) ∧ some k_ ≠ (v0_ : Value).ownBlock) v1_ r2 ∧ Below w.heap.size w w' := by
  have hu28 := Tryd.underlying28
  have HR0_0 := Aside0.mk hr0_0
  have HC0_0 := Aside0.mk hc0_0
  clear hr0_0 hc0_0
  have HO0_1 := Aside0.mk (show Kd.V Kd.bool 4 w w.heap.size (fun k_ => (P0_1_ k_ ∨ w.heap.size ≤ k_)) (.slice A0_1 l0_1.length c0_1) l0_1 from Kd.V_mono hs0_1 (fun k_ hk => .inl hk))
  have HB := Aside0.mk (Below.refl w.heap.size w)
  have H : (if 0 ≤ (mn (l0_1.length : Int) 40) then (if (mn (l0_1.length : Int) 40) ≤ (l0_1.length : Int) then (epitomelaw06_few.l0 k 0 l0_0 l0_1 ([] : List ByteArray) (l0_1.take ((mn (l0_1.length : Int) 40) : Int).toNat)) else (none)) else (none)) = some (r1, r2) := h
  clear h
  obtain ⟨ji2, hji2⟩ : ∃ j_ : Int, (mn (l0_1.length : Int) 40) = j_ := ⟨_, rfl⟩
  replace H : (if 0 ≤ (ji2) then (if (ji2) ≤ (l0_1.length : Int) then (epitomelaw06_few.l0 k 0 l0_0 l0_1 ([] : List ByteArray) (l0_1.take ((ji2) : Int).toNat)) else (none)) else (none)) = some (r1, r2) := by first | (rw [hji2] at H; exact H) | (simp only [hji2] at H ⊢; exact H)
  (try (have hji2h : ji2 ≤ 40 := by (rw [← hji2]; unfold mn; (repeat' split) <;> omega)))
  (try (have hji2g : ji2 ≤ 64 := by omega))
  (try (have hji2l : 0 ≤ ji2 := by (rw [← hji2]; unfold mn; (repeat' split) <;> omega)))
  (try (have hji2m : 0 ≤ ji2 := by omega))
  have hji2_ : (if 40 < (l0_1.length : Int) then 40 else (l0_1.length : Int)) = ji2 := hji2
  by_cases c3 : 0 ≤ (ji2)
  · rw [if_pos c3] at H
    have c3b0 := eq_true c3
    have c3b1 : decide (0 ≤ (ji2)) = true := decide_eq_true c3
    clear c3
    by_cases c4 : (ji2) ≤ (l0_1.length : Int)
    · rw [if_pos c4] at H
      have c4b0 := eq_true c4
      have c4b1 : decide ((ji2) ≤ (l0_1.length : Int)) = true := decide_eq_true c4
      clear c4
      obtain ⟨y103, hy103⟩ : ∃ y_ : List Bool, y_ = (l0_1.take ((ji2) : Int).toNat) := ⟨_, rfl⟩
      replace H : (epitomelaw06_few.l0 k 0 l0_0 l0_1 ([] : List ByteArray) y103) = some (r1, r2) := by first | (rw [hy103]; with_reducible exact H) | (have H2_ := (Option.bind_some _ _).symm.trans H; rw [hy103]; with_reducible exact H2_) | (have H2_ := (Option.bind_some _ _).symm.trans H; with_reducible exact H2_) | with_reducible exact H | (rw [hy103]; exact H) | exact H
      have Ny103 := Aside0.mk hy103
      clear hy103
      have H' := Aside0.mk H
      clear H
      go_enter Tryd.func31, Tryd.ntmps31
      go_wp2_with (first | ((with_reducible refine gate_dst (N := 1) rfl ?_); refine box_event ?hg (N := 1) ?hd (cs := #[.slice A0_0 l0_0.length c0_0, .slice A0_1 l0_1.length c0_1]) (t := 28) ?hr ?_; (case hd => rfl); (case hg => rfl); (case hr => first | (go_simp; done) | (go_simp; rfl)); intro gb101 hg w5 hbox hb; have n0_ := Aside0.mk (Kd.V_below (Kd.V_elderB (by (with_reducible repeat (first | apply Kd.V_alloc | apply Kd.V_drewN | apply Kd.V_drew)); exact HO0_1.out) gb101 (Nat.le_of_eq hg.symm)) hb); have n1_ := Aside0.mk (below_step (by repeat (first | (with_reducible first | exact HB.out | apply below_alloc | apply pw_below_drewN | apply below_drew1) | exact HB.out)) hb); have n2_ := Aside0.mk (hbox); have n3_ := Aside0.mk ((by rw [hg]; exact (below_size (by repeat (first | (with_reducible first | exact HB.out | apply below_alloc | apply pw_below_drewN | apply below_drew1) | exact HB.out))) : w.heap.size ≤ gb101)); have n4_ := Aside0.mk ((by rw [hg]; exact (below_size (by repeat (first | (with_reducible first | exact HB.out | apply below_alloc | apply pw_below_drewN | apply below_drew1) | exact HB.out))) : w.heap.size ≤ gb101)); clear HO0_1; clear HB; have HO0_1 := n0_; have HB := n1_; have BK101 := n2_; have GW101 := n3_; have GE101 := n4_; clear n0_ n1_ n2_ n3_ n4_; clear hb hbox hg) | ((with_reducible refine gate_dst (N := 2) rfl ?_); refine box_event ?hg (N := 2) ?hd (cs := #[.slice none 0 0, .slice none 0 0]) (t := 28) ?hr ?_; (case hd => rfl); (case hg => rfl); (case hr => first | (go_simp; done) | (go_simp; rfl)); intro gb102 hg w6 hbox hb; have n0_ := Aside0.mk (Kd.V_below (Kd.V_elderB (by (with_reducible repeat (first | apply Kd.V_alloc | apply Kd.V_drewN | apply Kd.V_drew)); exact HO0_1.out) gb102 (Nat.le_of_eq hg.symm)) hb); have n1_ := Aside0.mk (blk_below (g := gb101) (o := .cells #[.slice A0_0 l0_0.length c0_0, .slice A0_1 l0_1.length c0_1] 28 (0, 0)) (by (with_reducible repeat (first | refine blk_drewN ?_ _ | refine blk_drew ?_ | refine blk_alloc ?_ _)); exact BK101.out) hb); have n2_ := Aside0.mk (below_step (by repeat (first | (with_reducible first | exact HB.out | apply below_alloc | apply pw_below_drewN | apply below_drew1 | refine below_set ?_ GE101.out) | exact HB.out)) hb); have n3_ := Aside0.mk (hbox); have n4_ := Aside0.mk ((by rw [hg]; exact (below_size (by repeat (first | (with_reducible first | exact HB.out | apply below_alloc | apply pw_below_drewN | apply below_drew1 | refine below_set ?_ GE101.out) | exact HB.out))) : w.heap.size ≤ gb102)); have n5_ := Aside0.mk ((by rw [hg]; exact (below_size (by repeat (first | (with_reducible first | exact HB.out | apply below_alloc | apply pw_below_drewN | apply below_drew1 | refine below_set ?_ GE101.out) | exact HB.out))) : w.heap.size ≤ gb102)); have n6_ := Aside0.mk ((by rw [hg]; exact Nat.ne_of_lt (blk_lt (g := gb101) (o := .cells #[.slice A0_0 l0_0.length c0_0, .slice A0_1 l0_1.length c0_1] 28 (0, 0)) (by (with_reducible repeat (first | refine blk_drewN ?_ _ | refine blk_drew ?_ | refine blk_alloc ?_ _)); exact BK101.out)) : gb101 ≠ gb102)); have n7_ := Aside0.mk ((by rw [hg]; exact Nat.ne_of_gt (blk_lt (g := gb101) (o := .cells #[.slice A0_0 l0_0.length c0_0, .slice A0_1 l0_1.length c0_1] 28 (0, 0)) (by (with_reducible repeat (first | refine blk_drewN ?_ _ | refine blk_drew ?_ | refine blk_alloc ?_ _)); exact BK101.out)) : gb102 ≠ gb101)); clear HO0_1; clear BK101; clear HB; have HO0_1 := n0_; have BK101 := n1_; have HB := n2_; have BK102 := n3_; have GW102 := n4_; have GE102 := n5_; have NB101_102 := n6_; have NB102_101 := n7_; clear n0_ n1_ n2_ n3_ n4_ n5_ n6_ n7_; clear hb hbox hg; have hnb7 := NB101_102.out; have hnc7 := NB102_101.out; have hcz8_0 : w6.cell? ⟨gb101, 0, none⟩ = some (.slice A0_0 l0_0.length c0_0) := (blk_cell BK101.out 0).trans rfl; have hcz8_1 : w6.cell? ⟨gb101, 1, none⟩ = some (.slice A0_1 l0_1.length c0_1) := (blk_cell BK101.out 1).trans rfl; have hfz8_0 := blk_frozen BK101.out 0; have hfz8_1 := blk_frozen BK101.out 1; have q9 : ((ji2) : Int) ≤ ((l0_1.length : Int) : Int) := of_decide_eq_true (by first | (with_reducible assumption) | assumption); obtain ⟨i09, hi09, _, hsz9, _⟩ := info_parts info4; have hroom9 : l0_1.length ≤ c0_1 := (Kd.V_reads' HO0_1.out).2.1; have hC9 : Kd.F Kd.bool _ _ A0_1 l0_1.length l0_1 := (Kd.V_at (base := w.heap.size) HO0_1.out).2.2; have hcut9 := cut_to (P := Tryd.prog) 26 4 .i64 Tryd.underlying26 hi09 A0_1 l0_1.length c0_1 (ji2) (of_decide_eq_true (by first | (with_reducible assumption) | assumption)) q9 hroom9; have hr9 := Kd.F_take (m := ((ji2) : Int).toNat) hC9 (by omega); have hy9 : y103.length = ((ji2) : Int).toNat := (by rw [Ny103.out, List.length_take]; omega); rw [← Ny103.out] at hr9; rw [← hy9] at hcut9; have HO107 := Aside0.mk (show Kd.V Kd.bool 4 _ w.heap.size _ (.slice A0_1 y103.length c0_1) y103 from Kd.V_mk (by omega) hr9); have HC107 := Aside0.mk (show y103.length ≤ c0_1 from by omega); clear hr9 hC9 hroom9 hi09 hsz9; have KY9 := Aside0.mk hy9; clear hy9; replace q9 := eq_true q9) | ((with_reducible refine gate_dst (N := 3) rfl ?_); refine box_event ?hg (N := 3) ?hd (cs := #[.slice none 0 0, .slice none 0 0]) (t := 28) ?hr ?_; (case hd => rfl); (case hg => rfl); (case hr => first | (go_simp; done) | (go_simp; rfl)); intro gb108 hg w10 hbox hb; have n0_ := Aside0.mk (Kd.V_below (Kd.V_elderB (by (with_reducible repeat (first | apply Kd.V_alloc | apply Kd.V_drewN | apply Kd.V_drew)); exact HO0_1.out) gb108 (Nat.le_of_eq hg.symm)) hb); have n1_ := Aside0.mk (Kd.V_below (Kd.V_elderB (by (with_reducible repeat (first | apply Kd.V_alloc | apply Kd.V_drewN | apply Kd.V_drew)); exact HO107.out) gb108 (Nat.le_of_eq hg.symm)) hb); have n2_ := Aside0.mk (blk_below (g := gb101) (o := .cells #[.slice A0_0 l0_0.length c0_0, .slice A0_1 l0_1.length c0_1] 28 (0, 0)) (by (with_reducible repeat (first | refine blk_drewN ?_ _ | refine blk_drew ?_ | refine blk_alloc ?_ _)); exact BK101.out) hb); have n3_ := Aside0.mk (blk_below (g := gb102) (o := .cells #[.slice none 0 0, .slice none 0 0] 28 (0, 0)) (by (with_reducible repeat (first | refine blk_drewN ?_ _ | refine blk_drew ?_ | refine blk_alloc ?_ _)); exact BK102.out) hb); have n4_ := Aside0.mk (below_step (by repeat (first | (with_reducible first | exact HB.out | apply below_alloc | apply pw_below_drewN | apply below_drew1 | refine below_set ?_ GE101.out | refine below_set ?_ GE102.out) | exact HB.out)) hb); have n5_ := Aside0.mk (hbox); have n6_ := Aside0.mk ((by rw [hg]; exact (below_size (by repeat (first | (with_reducible first | exact HB.out | apply below_alloc | apply pw_below_drewN | apply below_drew1 | refine below_set ?_ GE101.out | refine below_set ?_ GE102.out) | exact HB.out))) : w.heap.size ≤ gb108)); have n7_ := Aside0.mk ((by rw [hg]; exact (below_size (by repeat (first | (with_reducible first | exact HB.out | apply below_alloc | apply pw_below_drewN | apply below_drew1 | refine below_set ?_ GE101.out | refine below_set ?_ GE102.out) | exact HB.out))) : w.heap.size ≤ gb108)); have n8_ := Aside0.mk ((by rw [hg]; exact Nat.ne_of_lt (blk_lt (g := gb101) (o := .cells #[.slice A0_0 l0_0.length c0_0, .slice A0_1 l0_1.length c0_1] 28 (0, 0)) (by (with_reducible repeat (first | refine blk_drewN ?_ _ | refine blk_drew ?_ | refine blk_alloc ?_ _)); exact BK101.out)) : gb101 ≠ gb108)); have n9_ := Aside0.mk ((by rw [hg]; exact Nat.ne_of_gt (blk_lt (g := gb101) (o := .cells #[.slice A0_0 l0_0.length c0_0, .slice A0_1 l0_1.length c0_1] 28 (0, 0)) (by (with_reducible repeat (first | refine blk_drewN ?_ _ | refine blk_drew ?_ | refine blk_alloc ?_ _)); exact BK101.out)) : gb108 ≠ gb101)); have n10_ := Aside0.mk ((by rw [hg]; exact Nat.ne_of_lt (blk_lt (g := gb102) (o := .cells #[.slice none 0 0, .slice none 0 0] 28 (0, 0)) (by (with_reducible repeat (first | refine blk_drewN ?_ _ | refine blk_drew ?_ | refine blk_alloc ?_ _)); exact BK102.out)) : gb102 ≠ gb108)); have n11_ := Aside0.mk ((by rw [hg]; exact Nat.ne_of_gt (blk_lt (g := gb102) (o := .cells #[.slice none 0 0, .slice none 0 0] 28 (0, 0)) (by (with_reducible repeat (first | refine blk_drewN ?_ _ | refine blk_drew ?_ | refine blk_alloc ?_ _)); exact BK102.out)) : gb108 ≠ gb102)); clear HO0_1; clear HO107; clear BK101; clear BK102; clear HB; have HO0_1 := n0_; have HO107 := n1_; have BK101 := n2_; have BK102 := n3_; have HB := n4_; have BK108 := n5_; have GW108 := n6_; have GE108 := n7_; have NB101_108 := n8_; have NB108_101 := n9_; have NB102_108 := n10_; have NB108_102 := n11_; clear n0_ n1_ n2_ n3_ n4_ n5_ n6_ n7_ n8_ n9_ n10_ n11_; clear hb hbox hg; have hnb11 := NB108_101.out; have hnc11 := NB101_108.out; have hnb12 := NB108_102.out; have hnc12 := NB102_108.out; have hcz13_0 : w10.cell? ⟨gb108, 0, none⟩ = some (.slice none 0 0) := (blk_cell BK108.out 0).trans rfl; have hcz13_1 : w10.cell? ⟨gb108, 1, none⟩ = some (.slice none 0 0) := (blk_cell BK108.out 1).trans rfl; have hfz13_0 := blk_frozen BK108.out 0; have hfz13_1 := blk_frozen BK108.out 1))
      go_loopg [4] k (fun kq v4 w' => ∃ (x4_1 : Int) (x109000_1 : List ByteArray) (u109000 : Value), v4 = .int .i64 x4_1 ∧ Aside0 (epitomelaw06_few.l0 kq x4_1 l0_0 l0_1 x109000_1 y103 = some (r1, r2)) ∧ Aside0 (kq ≤ k) ∧ Aside0 (Kd.V Kd.bool 4 w' w.heap.size (fun k_ => (P0_1_ k_ ∨ w.heap.size ≤ k_) ∧ some k_ ≠ (u109000 : Value).ownBlock ∧ k_ ≠ gb101 ∧ k_ ≠ gb102 ∧ k_ ≠ gb108) (.slice A0_1 l0_1.length c0_1) l0_1) ∧ Aside0 (Kd.R Kd.string 9 w' w.heap.size (fun k_ => (w.heap.size ≤ k_)) u109000 x109000_1) ∧ Aside0 (Kd.V Kd.bool 4 w' w.heap.size (fun k_ => (P0_1_ k_ ∨ w.heap.size ≤ k_) ∧ some k_ ≠ (u109000 : Value).ownBlock ∧ k_ ≠ gb101 ∧ k_ ≠ gb102 ∧ k_ ≠ gb108) (.slice A0_1 y103.length c0_1) y103) ∧ Aside0 (w'.heap[gb101]? = some (.cells #[(.slice A0_0 l0_0.length c0_0), (.slice A0_1 l0_1.length c0_1)] 28 (0, 0))) ∧ Aside0 (w'.heap[gb102]? = some (.cells #[(.slice none 0 0), (.slice none 0 0)] 28 (0, 0))) ∧ Aside0 (w'.heap[gb108]? = some (.cells #[u109000, (.slice A0_1 y103.length c0_1)] 28 (0, 0))) ∧ Aside0 (Below w.heap.size w w'))
      case atStart => exact ⟨(0), (([] : List ByteArray)), (.slice none 0 0), (by first | rfl | (simp; done) | (simp [*]; done)), H', ⟨Nat.le_refl _⟩, ⟨by (with_reducible repeat (first | apply Kd.V_alloc | apply Kd.V_drewN | apply Kd.V_drew)); exact Kd.V_mono (Kd.V_far (p := ⟨gb108, 1, none⟩) (Kd.V_far (p := ⟨gb108, 0, none⟩) (Kd.V_mono HO0_1.out (fun k_ hk => (⟨hk, hk.2⟩ : _ ∧ k_ ≠ gb108))) (fun _ hk => hk.2) (.slice none 0 0)) (fun _ hk => hk.2) (.slice A0_1 y103.length c0_1)) (fun _ hk => ⟨hk.1.1.1.1, ⟨(by simp [Value.ownBlock]), ⟨hk.1.1.1.2, ⟨hk.1.1.2, hk.1.2⟩⟩⟩⟩)⟩, ⟨by first | exact Kd.R_nil _ _ _ _ _ | exact Kd.N_nil _ _ _ _ _ | exact Kd.V_nil _ _ _ _ _ | exact Kd.Q_nil _ _ _ _ _ | exact Kd.S_nil _ _ _ _ _⟩, ⟨by (with_reducible repeat (first | apply Kd.V_alloc | apply Kd.V_drewN | apply Kd.V_drew)); exact Kd.V_mono (Kd.V_far (p := ⟨gb108, 1, none⟩) (Kd.V_far (p := ⟨gb108, 0, none⟩) (Kd.V_mono HO107.out (fun k_ hk => (⟨hk, hk.2⟩ : _ ∧ k_ ≠ gb108))) (fun _ hk => hk.2) (.slice none 0 0)) (fun _ hk => hk.2) (.slice A0_1 y103.length c0_1)) (fun _ hk => ⟨hk.1.1.1.1, ⟨(by simp [Value.ownBlock]), ⟨hk.1.1.1.2, ⟨hk.1.1.2, hk.1.2⟩⟩⟩⟩)⟩, ⟨by (with_reducible repeat (first | refine blk_drewN ?_ _ | refine blk_drew ?_ | refine blk_alloc ?_ _)); refine blk_far ?_ NB101_108.out _; (with_reducible repeat (first | refine blk_drewN ?_ _ | refine blk_drew ?_ | refine blk_alloc ?_ _)); refine blk_far ?_ NB101_108.out _; (with_reducible repeat (first | refine blk_drewN ?_ _ | refine blk_drew ?_ | refine blk_alloc ?_ _)); exact BK101.out⟩, ⟨by (with_reducible repeat (first | refine blk_drewN ?_ _ | refine blk_drew ?_ | refine blk_alloc ?_ _)); refine blk_far ?_ NB102_108.out _; (with_reducible repeat (first | refine blk_drewN ?_ _ | refine blk_drew ?_ | refine blk_alloc ?_ _)); refine blk_far ?_ NB102_108.out _; (with_reducible repeat (first | refine blk_drewN ?_ _ | refine blk_drew ?_ | refine blk_alloc ?_ _)); exact BK102.out⟩, ⟨by (with_reducible repeat (first | refine blk_drewN ?_ _ | refine blk_drew ?_ | refine blk_alloc ?_ _)); refine blk_put (cs := #[.slice none 0 0, .slice none 0 0]) ?_ 1 _ rfl; (with_reducible repeat (first | refine blk_drewN ?_ _ | refine blk_drew ?_ | refine blk_alloc ?_ _)); refine blk_put (cs := #[.slice none 0 0, .slice none 0 0]) ?_ 0 _ rfl; (with_reducible repeat (first | refine blk_drewN ?_ _ | refine blk_drew ?_ | refine blk_alloc ?_ _)); exact BK108.out⟩, ⟨by repeat (first | (with_reducible first | exact HB.out | apply below_alloc | apply pw_below_drewN | apply below_drew1 | refine below_set ?_ GE101.out | refine below_set ?_ GE102.out | refine below_set ?_ GE108.out) | exact HB.out)⟩⟩
      case round =>
        clear H'
        try clear c1
        try clear p2
        try clear c3
        try clear c3b0
        try clear c3b1
        try clear c4
        try clear c4b0
        try clear c4b1
        try clear c7
        try clear q9
        try clear c11
        try clear c12
        try clear hcz13_0
        try clear hcz13_1
        try clear hcz8_0
        try clear hcz8_1
        try clear hfz13_0
        try clear hfz13_1
        try clear hfz8_0
        try clear hfz8_1
        try clear q9
        obtain ⟨x4_1, x109000_1, u109000, rfl, HA, HK1, HO_102001, HO_109000, HO_109001, BK101, BK102, BK108, HB⟩ := hrel
        cases gk with
        | zero => exact absurd HA.out (by simp [epitomelaw06_few.l0])
        | succ k1 =>
          have H := HA.out
          clear HA
          simp only [epitomelaw06_few.l0] at H
          by_cases c14 : x4_1 < (l0_0.length : Int)
          · rw [if_pos c14] at H
            have c14b0 : decide (x4_1 < (l0_0.length : Int)) = true := decide_eq_true c14
            clear c14
            by_cases c15 : x4_1 < 41
            · rw [if_pos c15] at H
              have c15b0 : decide (x4_1 < 41) = true := decide_eq_true c15
              clear c15
              by_cases c16 : 0 ≤ x4_1
              · rw [if_pos c16] at H
                have c16b0 : decide (0 ≤ x4_1) = true := decide_eq_true c16
                clear c16
                obtain ⟨ji17, hji17⟩ : ∃ j_ : Int, (mn ((rdOf ByteArray.empty l0_0 x4_1).size : Int) 20) = j_ := ⟨_, rfl⟩
                replace H : (if 0 ≤ (ji17) then (if (ji17) ≤ ((rdOf ByteArray.empty l0_0 x4_1).size : Int) then (if x109000_1.length < 8796093022208 then (epitomelaw06_few.l0 k1 (wrap64 (x4_1 + 1)) l0_0 l0_1 (x109000_1 ++ [(rdOf ByteArray.empty l0_0 x4_1).extract 0 ((ji17) : Int).toNat]) y103) else (none)) else (none)) else (none)) = some (r1, r2) := by first | (rw [hji17] at H; exact H) | (simp only [hji17] at H ⊢; exact H)
                have hji17_ : (if 20 < ((rdOf ByteArray.empty l0_0 x4_1).size : Int) then 20 else ((rdOf ByteArray.empty l0_0 x4_1).size : Int)) = ji17 := hji17
                by_cases c18 : 0 ≤ (ji17)
                · rw [if_pos c18] at H
                  have c18b0 := eq_true c18
                  have c18b1 : decide (0 ≤ (ji17)) = true := decide_eq_true c18
                  clear c18
                  by_cases c19 : (ji17) ≤ ((rdOf ByteArray.empty l0_0 x4_1).size : Int)
                  · rw [if_pos c19] at H
                    have c19b0 := eq_true c19
                    have c19b1 : decide ((ji17) ≤ ((rdOf ByteArray.empty l0_0 x4_1).size : Int)) = true := decide_eq_true c19
                    clear c19
                    by_cases c20 : x109000_1.length < 8796093022208
                    · rw [if_pos c20] at H
                      have LMc20 := Aside0.mk c20
                      clear c20
                      obtain ⟨y111, hy111⟩ : ∃ y_ : List ByteArray, y_ = (x109000_1 ++ [(rdOf ByteArray.empty l0_0 x4_1).extract 0 ((ji17) : Int).toNat]) := ⟨_, rfl⟩
                      replace H : (epitomelaw06_few.l0 k1 (wrap64 (x4_1 + 1)) l0_0 l0_1 y111 y103) = some (r1, r2) := by first | (rw [hy111]; with_reducible exact H) | (have H2_ := (Option.bind_some _ _).symm.trans H; rw [hy111]; with_reducible exact H2_) | (have H2_ := (Option.bind_some _ _).symm.trans H; with_reducible exact H2_) | with_reducible exact H | (rw [hy111]; exact H) | exact H
                      have Ny111 := Aside0.mk hy111
                      clear hy111
                      have H' := Aside0.mk H
                      clear H
                      have hnb21 := NB101_102.out
                      have hnc21 := NB102_101.out
                      have hnb22 := NB101_108.out
                      have hnc22 := NB108_101.out
                      have hcz23_0 : wr.cell? ⟨gb101, 0, none⟩ = some (.slice A0_0 l0_0.length c0_0) := (blk_cell BK101.out 0).trans rfl
                      have hcz23_1 : wr.cell? ⟨gb101, 1, none⟩ = some (.slice A0_1 l0_1.length c0_1) := (blk_cell BK101.out 1).trans rfl
                      have hfz23_0 := blk_frozen BK101.out 0
                      have hfz23_1 := blk_frozen BK101.out 1
                      try go_wp2
                      have n0_ := Aside0.mk (Kd.V_drew HO_102001.out)
                      have n1_ := Aside0.mk (Kd.R_drew HO_109000.out)
                      have n2_ := Aside0.mk (Kd.V_drew HO_109001.out)
                      have n3_ := Aside0.mk (blk_drew BK101.out)
                      have n4_ := Aside0.mk (blk_drew BK102.out)
                      have n5_ := Aside0.mk (blk_drew BK108.out)
                      have n6_ := Aside0.mk (below_drew1 HB.out)
                      clear HO_102001
                      clear HO_109000
                      clear HO_109001
                      clear BK101
                      clear BK102
                      clear BK108
                      clear HB
                      have HO_102001 := n0_
                      have HO_109000 := n1_
                      have HO_109001 := n2_
                      have BK101 := n3_
                      have BK102 := n4_
                      have BK108 := n5_
                      have HB := n6_
                      clear n0_ n1_ n2_ n3_ n4_ n5_ n6_
                      have p109 : 0 ≤ (x4_1 : Int) := of_decide_eq_true (by first | (with_reducible assumption) | assumption)
                      have q109 : x4_1 < (l0_0.length : Int) := of_decide_eq_true (by first | (with_reducible assumption) | assumption)
                      obtain ⟨ad109, e109, hx109_0⟩ := Kd.at_string HR0_0.out x4_1 p109 q109
                      have hw109_0 := hx109_0
                      cases e109
                      replace hx109_0 := (HB.out.cell (World.block_lt_of_cell? w _ hx109_0)).trans hx109_0
                      replace p109 := eq_true p109
                      replace q109 := eq_true q109
                      have p110 : 0 ≤ (x4_1 : Int) := of_decide_eq_true (by first | (with_reducible assumption) | assumption)
                      have q110 : x4_1 < (l0_0.length : Int) := of_decide_eq_true (by first | (with_reducible assumption) | assumption)
                      obtain ⟨ad110, e110, hx110_0⟩ := Kd.at_string HR0_0.out x4_1 p110 q110
                      have hw110_0 := hx110_0
                      obtain rfl : ad109 = ad110 := (by injection e110)
                      replace hx110_0 := (HB.out.cell (World.block_lt_of_cell? w _ hx110_0)).trans hx110_0
                      replace p110 := eq_true p110
                      replace q110 := eq_true q110
                      refine start_ (n := 19) (S := fun w' => w'.cell? ⟨gb108, 0, none⟩ = some (u109000) ∧ w'.cell? ⟨gb108, 1, none⟩ = some (.slice A0_1 y103.length c0_1) ∧ w'.cell? ⟨gb101, 0, none⟩ = some (.slice (some ad109) l0_0.length c0_0) ∧ w'.cell? ⟨gb101, 1, none⟩ = some (.slice A0_1 l0_1.length c0_1) ∧ w'.cell? (ad109.add (x4_1).toNat) = some (.string (rdOf ByteArray.empty l0_0 x4_1)) ∧ w'.cell? (ad109.add (x4_1).toNat) = some (.string (rdOf ByteArray.empty l0_0 x4_1))) (ds := [18]) #[false, false, false, false, false, false, false, false, false, false, false, false, false, false, false, false, false, false, false] (by kernel_rfl) rfl rfl ⟨(blk_cell BK108.out 0).trans rfl, (blk_cell BK108.out 1).trans rfl, (blk_cell BK101.out 0).trans rfl, (blk_cell BK101.out 1).trans rfl, ((HB.out.cell (World.block_lt_of_cell? w _ hw109_0)).trans hw109_0), ((HB.out.cell (World.block_lt_of_cell? w _ hw110_0)).trans hw110_0)⟩ (fun hHeld => ?_); refine with_tabW epitomelaw06_few.tab5 epitomelaw06_few.bits5 (fun HT_ HW_ => ?_)
                      generalize wr.drew = w24 at HO_102001 HO_109000 HO_109001 BK101 BK102 BK108 HB hx109_0 hx110_0 hHeld ⊢
                      refine pure_ (i := 0) (N := some 24) (v := ?_) (a' := ?_) #[true, false, false, false, false, false, false, false, false, false, false, false, false, false, false, false, false, false, false] rfl rfl (any_of HT_.out (by kernel_rfl)) (fun _ _ _ h => h) (Or.inl ⟨by rfl, ?_⟩) ?_ ?_
                      rotate_left
                      · intro w'
                        go_simp
                        with_reducible rfl
                      rotate_left
                      · simp only [Act.put, List.setIfInBounds_toArray, List.set_cons_zero, List.set_cons_succ, i64_w, i32_w]
                        rfl
                      refine pure_ (i := 2) (N := some 26) (v := ?_) (a' := ?_) #[true, false, true, false, false, false, false, false, false, false, false, false, false, false, false, false, false, false, false] rfl rfl (any_of HT_.out (by kernel_rfl)) (fun _ _ _ h => h) (Or.inl ⟨by rfl, ?_⟩) ?_ ?_
                      rotate_left
                      · intro w'
                        go_simp
                        with_reducible rfl
                      rotate_left
                      · simp only [Act.put, List.setIfInBounds_toArray, List.set_cons_zero, List.set_cons_succ, i64_w, i32_w]
                        rfl
                      refine pure_ (i := 4) (N := some 28) (v := ?_) (a' := ?_) #[true, false, true, false, true, false, false, false, false, false, false, false, false, false, false, false, false, false, false] rfl rfl (any_of HT_.out (by kernel_rfl)) (fun _ _ _ h => h) (Or.inl ⟨by rfl, ?_⟩) ?_ ?_
                      rotate_left
                      · intro w'
                        go_simp
                        with_reducible rfl
                      rotate_left
                      · simp only [Act.put, List.setIfInBounds_toArray, List.set_cons_zero, List.set_cons_succ, i64_w, i32_w]
                        rfl
                      refine pure_ (i := 7) (N := some 31) (v := ?_) (a' := ?_) #[true, false, true, false, true, false, false, true, false, false, false, false, false, false, false, false, false, false, false] rfl rfl (any_of HT_.out (by kernel_rfl)) (fun _ _ _ h => h) (Or.inl ⟨by rfl, ?_⟩) ?_ ?_
                      rotate_left
                      · intro w'
                        go_simp
                        with_reducible rfl
                      rotate_left
                      · simp only [Act.put, List.setIfInBounds_toArray, List.set_cons_zero, List.set_cons_succ, i64_w, i32_w]
                        rfl
                      refine pure_ (i := 9) (N := some 33) (v := ?_) (a' := ?_) #[true, false, true, false, true, false, false, true, false, true, false, false, false, false, false, false, false, false, false] rfl rfl (any_of HT_.out (by kernel_rfl)) (fun _ _ _ h => h) (Or.inl ⟨by rfl, ?_⟩) ?_ ?_
                      rotate_left
                      · intro w'
                        go_simp
                        with_reducible rfl
                      rotate_left
                      · simp only [Act.put, List.setIfInBounds_toArray, List.set_cons_zero, List.set_cons_succ, i64_w, i32_w]
                        rfl
                      refine take_ (i := 1) (N := some 25) (v := ?_) (a' := ?_) #[true, true, true, false, true, false, false, true, false, true, false, false, false, false, false, false, false, false, false] rfl rfl (take_ofW HT_.out HW_.out (by kernel_rfl)) (fun _ _ _ h => h) (Or.inl ⟨by rfl, ?_⟩) hHeld ?_ ?_
                      rotate_left
                      · rintro w' ⟨s0, s1, s2, s3, s4, s5⟩
                        go_simp
                        with_reducible rfl
                      rotate_left
                      · simp only [Act.put, List.setIfInBounds_toArray, List.set_cons_zero, List.set_cons_succ, i64_w, i32_w]
                        rfl
                      refine take_ (i := 3) (N := some 27) (v := ?_) (a' := ?_) #[true, true, true, true, true, false, false, true, false, true, false, false, false, false, false, false, false, false, false] rfl rfl (take_ofW HT_.out HW_.out (by kernel_rfl)) (fun _ _ _ h => h) (Or.inl ⟨by rfl, ?_⟩) hHeld ?_ ?_
                      rotate_left
                      · rintro w' ⟨s0, s1, s2, s3, s4, s5⟩
                        go_simp
                        with_reducible rfl
                      rotate_left
                      · simp only [Act.put, List.setIfInBounds_toArray, List.set_cons_zero, List.set_cons_succ, i64_w, i32_w]
                        rfl
                      refine pure_ (i := 5) (N := some 29) (v := ?_) (a' := ?_) #[true, true, true, true, true, true, false, true, false, true, false, false, false, false, false, false, false, false, false] rfl rfl (any_of HT_.out (by kernel_rfl)) (fun _ _ _ h => h) (Or.inl ⟨by rfl, ?_⟩) ?_ ?_
                      rotate_left
                      · intro w'
                        go_simp
                        with_reducible rfl
                      rotate_left
                      · simp only [Act.put, List.setIfInBounds_toArray, List.set_cons_zero, List.set_cons_succ, i64_w, i32_w]
                        rfl
                      refine take_ (i := 6) (N := some 30) (v := ?_) (a' := ?_) #[true, true, true, true, true, true, true, true, false, true, false, false, false, false, false, false, false, false, false] rfl rfl (take_ofW HT_.out HW_.out (by kernel_rfl)) (fun _ _ _ h => h) (Or.inl ⟨by rfl, ?_⟩) hHeld ?_ ?_
                      rotate_left
                      · rintro w' ⟨s0, s1, s2, s3, s4, s5⟩
                        go_simp
                        with_reducible rfl
                      rotate_left
                      · simp only [Act.put, List.setIfInBounds_toArray, List.set_cons_zero, List.set_cons_succ, i64_w, i32_w]
                        rfl
                      refine take_ (i := 8) (N := some 32) (v := ?_) (a' := ?_) #[true, true, true, true, true, true, true, true, true, true, false, false, false, false, false, false, false, false, false] rfl rfl (take_ofW HT_.out HW_.out (by kernel_rfl)) (fun _ _ _ h => h) (Or.inl ⟨by rfl, ?_⟩) hHeld ?_ ?_
                      rotate_left
                      · rintro w' ⟨s0, s1, s2, s3, s4, s5⟩
                        go_simp
                        with_reducible rfl
                      rotate_left
                      · simp only [Act.put, List.setIfInBounds_toArray, List.set_cons_zero, List.set_cons_succ, i64_w, i32_w]
                        rfl
                      refine pure_ (i := 10) (N := some 34) (v := ?_) (a' := ?_) #[true, true, true, true, true, true, true, true, true, true, true, false, false, false, false, false, false, false, false] rfl rfl (any_of HT_.out (by kernel_rfl)) (fun _ _ _ h => h) (Or.inl ⟨by rfl, ?_⟩) ?_ ?_
                      rotate_left
                      · intro w'
                        go_simp
                        with_reducible rfl
                      rotate_left
                      · simp only [Act.put, List.setIfInBounds_toArray, List.set_cons_zero, List.set_cons_succ, i64_w, i32_w]
                        rfl
                      refine take_ (i := 11) (N := some 35) (v := ?_) (a' := ?_) #[true, true, true, true, true, true, true, true, true, true, true, true, false, false, false, false, false, false, false] rfl rfl (take_ofW HT_.out HW_.out (by kernel_rfl)) (fun _ _ _ h => h) (Or.inl ⟨by rfl, ?_⟩) hHeld ?_ ?_
                      rotate_left
                      · rintro w' ⟨s0, s1, s2, s3, s4, s5⟩
                        go_simp
                        with_reducible rfl
                      rotate_left
                      · simp only [Act.put, List.setIfInBounds_toArray, List.set_cons_zero, List.set_cons_succ, i64_w, i32_w]
                        rfl
                      refine pure_ (i := 12) (N := some 36) (v := ?_) (a' := ?_) #[true, true, true, true, true, true, true, true, true, true, true, true, true, false, false, false, false, false, false] rfl rfl (any_of HT_.out (by kernel_rfl)) (fun _ _ _ h => h) (Or.inl ⟨by rfl, ?_⟩) ?_ ?_
                      rotate_left
                      · intro w'
                        go_simp
                        with_reducible rfl
                      rotate_left
                      · simp only [Act.put, List.setIfInBounds_toArray, List.set_cons_zero, List.set_cons_succ, i64_w, i32_w]
                        rfl
                      refine pure_ (i := 13) (N := some 37) (v := ?_) (a' := ?_) #[true, true, true, true, true, true, true, true, true, true, true, true, true, true, false, false, false, false, false] rfl rfl (any_of HT_.out (by kernel_rfl)) (fun _ _ _ h => h) (Or.inl ⟨by rfl, ?_⟩) ?_ ?_
                      rotate_left
                      · intro w'
                        go_simp
                        with_reducible rfl
                      rotate_left
                      · simp only [Act.put, List.setIfInBounds_toArray, List.set_cons_zero, List.set_cons_succ, i64_w, i32_w]
                        rfl
                      refine pure_ (i := 14) (N := some 38) (v := ?_) (a' := ?_) #[true, true, true, true, true, true, true, true, true, true, true, true, true, true, true, false, false, false, false] rfl rfl (any_of HT_.out (by kernel_rfl)) (fun _ _ _ h => h) (Or.inl ⟨by rfl, ?_⟩) ?_ ?_
                      rotate_left
                      · intro w'
                        go_simp
                        with_reducible rfl
                      rotate_left
                      · simp only [Act.put, List.setIfInBounds_toArray, List.set_cons_zero, List.set_cons_succ, i64_w, i32_w]
                        rfl
                      refine one_ (i := 15) (N := some 39) #[true, true, true, true, true, true, true, true, true, true, true, true, true, true, true, true, false, false, false] rfl rfl (one_of HT_.out (by kernel_rfl)) (by decide) (fun K hK => ?_)
                      refine value_ (w1 := ?_) (v := ?_) (by rfl) rfl ?_ ?_
                      rotate_left 2
                      · go_simp
                        constructor
                        · rfl
                        · rfl
                      refine hK.out _ _ ⟨(blk_cell (blk_alloc BK108.out _) 0).trans rfl, (blk_cell (blk_alloc BK108.out _) 1).trans rfl, (blk_cell (blk_alloc BK101.out _) 0).trans rfl, (blk_cell (blk_alloc BK101.out _) 1).trans rfl, (World.cell?_alloc_lt _ _ _ (World.block_lt_of_cell? _ _ (((HB.out.cell (World.block_lt_of_cell? w _ hw109_0)).trans hw109_0)))).trans (((HB.out.cell (World.block_lt_of_cell? w _ hw109_0)).trans hw109_0)), (World.cell?_alloc_lt _ _ _ (World.block_lt_of_cell? _ _ (((HB.out.cell (World.block_lt_of_cell? w _ hw110_0)).trans hw110_0)))).trans (((HB.out.cell (World.block_lt_of_cell? w _ hw110_0)).trans hw110_0))⟩ (fun hHeld => ?_)
                      clear hK K
                      refine norm_ (a' := ?_) ?_ ?_
                      rotate_left
                      · show Act.put _ (some 39) _ = _
                        simp only [Act.put, List.setIfInBounds_toArray, List.set_cons_zero, List.set_cons_succ, i64_w, i32_w]
                        rfl
                      refine one_ (i := 16) (N := some 40) #[true, true, true, true, true, true, true, true, true, true, true, true, true, true, true, true, true, false, false] rfl rfl (one_of HT_.out (by kernel_rfl)) (by decide) (fun K hK => ?_)
                      refine Kd.R_append_step Kd.string (w0 := w) w.heap.size (by rfl) (.tmp 25) (.tmp 39) 25 9 (.string ⟨#[]⟩) 16 rfl Tryd.underlying25 info9 rfl (by decide) (by omega) u109000 x109000_1 ((rdOf ByteArray.empty l0_0 x4_1).extract 0 ((ji17) : Int).toNat) [.string ((rdOf ByteArray.empty l0_0 x4_1).extract 0 ((ji17) : Int).toNat)] (fun k_ => (w.heap.size ≤ k_)) (fun _ => False) rfl rfl ?aP (fun _ hk => hk.elim) ?aF ?aO ?aB ?aS ?aL ?_
                      (case aP => exact rfl)
                      (case aB => exact (by repeat (first | (with_reducible first | exact HB.out | apply below_alloc | apply pw_below_drewN | apply below_drew1 | refine below_set ?_ GE101.out | refine below_set ?_ GE102.out | refine below_set ?_ GE108.out) | exact HB.out)))
                      (case aF => exact (fun k_ hk => (Nat.le_trans (below_size (by repeat (first | (with_reducible first | exact HB.out | apply below_alloc | apply pw_below_drewN | apply below_drew1 | refine below_set ?_ GE101.out | refine below_set ?_ GE102.out | refine below_set ?_ GE108.out) | exact HB.out))) hk)))
                      (case aO => exact (by (with_reducible repeat (first | apply Kd.R_alloc | apply Kd.R_drewN | apply Kd.R_drew)); exact HO_109000.out))
                      (case aS => exact (below_size (by repeat (first | (with_reducible first | exact HB.out | apply below_alloc | apply pw_below_drewN | apply below_drew1 | refine below_set ?_ GE101.out | refine below_set ?_ GE102.out | refine below_set ?_ GE108.out) | exact HB.out))))
                      (case aL => have := LMc20.out; omega)
                      intro v112 w25 ho hb hg hat
                      rw [← Ny111.out] at ho
                      have n0_ := Aside0.mk (Kd.V_afterv (ok := (fun k_ => (P0_1_ k_ ∨ w.heap.size ≤ k_) ∧ k_ ≠ gb101 ∧ k_ ≠ gb102 ∧ k_ ≠ gb108)) (by (with_reducible repeat (first | apply Kd.V_alloc | apply Kd.V_drewN | apply Kd.V_drew)); exact Kd.V_mono HO_102001.out (fun _ hk => ⟨⟨hk.1, ⟨hk.2.2.1, ⟨hk.2.2.2.1, hk.2.2.2.2⟩⟩⟩, hk.2.1⟩)) hg hat)
                      have n1_ := Aside0.mk (Kd.V_afterv (ok := (fun k_ => (P0_1_ k_ ∨ w.heap.size ≤ k_) ∧ k_ ≠ gb101 ∧ k_ ≠ gb102 ∧ k_ ≠ gb108)) (by (with_reducible repeat (first | apply Kd.V_alloc | apply Kd.V_drewN | apply Kd.V_drew)); exact Kd.V_mono HO_109001.out (fun _ hk => ⟨⟨hk.1, ⟨hk.2.2.1, ⟨hk.2.2.2.1, hk.2.2.2.2⟩⟩⟩, hk.2.1⟩)) hg hat)
                      have n2_ := Aside0.mk (blk_grown (g := gb101) (o := .cells #[.slice (some ad109) l0_0.length c0_0, .slice A0_1 l0_1.length c0_1] 28 (0, 0)) (by (with_reducible repeat (first | refine blk_drewN ?_ _ | refine blk_drew ?_ | refine blk_alloc ?_ _)); exact BK101.out) hg (Kd.R_ne HO_109000.out BK101.out (by decide)))
                      have n3_ := Aside0.mk (blk_grown (g := gb102) (o := .cells #[.slice none 0 0, .slice none 0 0] 28 (0, 0)) (by (with_reducible repeat (first | refine blk_drewN ?_ _ | refine blk_drew ?_ | refine blk_alloc ?_ _)); exact BK102.out) hg (Kd.R_ne HO_109000.out BK102.out (by decide)))
                      have n4_ := Aside0.mk (blk_grown (g := gb108) (o := .cells #[u109000, .slice A0_1 y103.length c0_1] 28 (0, 0)) (by (with_reducible repeat (first | refine blk_drewN ?_ _ | refine blk_drew ?_ | refine blk_alloc ?_ _)); exact BK108.out) hg (Kd.R_ne HO_109000.out BK108.out (by decide)))
                      have n5_ := Aside0.mk (hb)
                      have n6_ := Aside0.mk (ho)
                      clear HO_102001
                      clear HO_109001
                      clear BK101
                      clear BK102
                      clear BK108
                      clear HB
                      clear HO_109000
                      have HO_102001 := n0_
                      have HO_109001 := n1_
                      have BK101 := n2_
                      have BK102 := n3_
                      have BK108 := n4_
                      have HB := n5_
                      have HO113 := n6_
                      clear n0_ n1_ n2_ n3_ n4_ n5_ n6_
                      clear ho hb hg hat
                      obtain ⟨Ao26, co26, eo26⟩ := Kd.R_slice HO113.out
                      (first | subst eo26 | (injection eo26 with f1_ f2_ f3_; have f4_ := f1_.symm; have f5_ := f3_.symm; clear f1_ f2_ f3_; subst f4_; subst f5_))
                      refine hK.out _ _ ⟨(blk_cell BK108.out 0).trans rfl, (blk_cell BK108.out 1).trans rfl, (blk_cell BK101.out 0).trans rfl, (blk_cell BK101.out 1).trans rfl, ((HB.out.cell (World.block_lt_of_cell? w _ hw109_0)).trans hw109_0), ((HB.out.cell (World.block_lt_of_cell? w _ hw110_0)).trans hw110_0)⟩ (fun hHeld => ?_)
                      clear hK K
                      refine norm_ (a' := ?_) ?_ ?_
                      rotate_left
                      · show Act.put _ (some 40) _ = _
                        simp only [Act.put, List.setIfInBounds_toArray, List.set_cons_zero, List.set_cons_succ, i64_w, i32_w]
                        rfl
                      refine pure_ (i := 17) (N := some 41) (v := ?_) (a' := ?_) #[true, true, true, true, true, true, true, true, true, true, true, true, true, true, true, true, true, true, false] rfl rfl (any_of HT_.out (by kernel_rfl)) (fun _ _ _ h => h) (Or.inl ⟨by rfl, ?_⟩) ?_ ?_
                      rotate_left
                      · intro w'
                        go_simp
                        with_reducible rfl
                      rotate_left
                      · simp only [Act.put, List.setIfInBounds_toArray, List.set_cons_zero, List.set_cons_succ, i64_w, i32_w]
                        rfl
                      refine last_ (i := 18) (N := none) #[true, true, true, true, true, true, true, true, true, true, true, true, true, true, true, true, true, true, true] rfl rfl (one_of HT_.out (by kernel_rfl)) (by decide) (fun K hK => ?_)
                      have hs27 : w25.cell? ⟨gb108, 0, none⟩ = some (u109000) := (blk_cell BK108.out 0).trans rfl
                      have hfs27 := blk_frozen BK108.out 0
                      have hns27_0 := NB101_108.out
                      have hns27_1 := NB102_108.out
                      have hms27_0 := NB108_101.out
                      have hms27_1 := NB108_102.out
                      refine skip_ (w1 := ?_) (by rfl) rfl ?_ ?_
                      rotate_left
                      · go_simp
                        rfl
                      refine hK.out _ _ ?_
                      clear hK K
                      refine done_ (done_of HT_.out (by kernel_rfl)) ?_
                      try go_wp2
                      go_roundg k1
                      case measure => have := HK1.out; omega
                      case rel => exact ⟨(wrap64 (x4_1 + 1)), (y111), (.slice Ao26 y111.length co26), (by first | rfl | (simp; done) | (simp [*]; done)), H', ⟨by have := HK1.out; omega⟩, ⟨by (with_reducible repeat (first | apply Kd.V_alloc | apply Kd.V_drewN | apply Kd.V_drew)); exact Kd.V_mono (Kd.V_far (p := ⟨gb108, 0, none⟩) (Kd.V_mono HO_102001.out (fun k_ hk => (⟨hk, hk.1.2.2.2⟩ : _ ∧ k_ ≠ gb108))) (fun _ hk => hk.2) (.slice Ao26 y111.length co26)) (fun _ hk => ⟨hk.1.1.1, ⟨hk.1.2, ⟨hk.1.1.2.1, ⟨hk.1.1.2.2.1, hk.1.1.2.2.2⟩⟩⟩⟩)⟩, ⟨by (with_reducible repeat (first | apply Kd.R_alloc | apply Kd.R_drewN | apply Kd.R_drew)); exact Kd.R_mono (Kd.R_far (p := ⟨gb108, 0, none⟩) (Kd.R_types HO113.out BK108.out (by decide)) (fun _ hk => hk.2) (.slice Ao26 y111.length co26)) (fun _ hk => hk.1)⟩, ⟨by (with_reducible repeat (first | apply Kd.V_alloc | apply Kd.V_drewN | apply Kd.V_drew)); exact Kd.V_mono (Kd.V_far (p := ⟨gb108, 0, none⟩) (Kd.V_mono HO_109001.out (fun k_ hk => (⟨hk, hk.1.2.2.2⟩ : _ ∧ k_ ≠ gb108))) (fun _ hk => hk.2) (.slice Ao26 y111.length co26)) (fun _ hk => ⟨hk.1.1.1, ⟨hk.1.2, ⟨hk.1.1.2.1, ⟨hk.1.1.2.2.1, hk.1.1.2.2.2⟩⟩⟩⟩)⟩, ⟨by (with_reducible repeat (first | refine blk_drewN ?_ _ | refine blk_drew ?_ | refine blk_alloc ?_ _)); refine blk_far ?_ NB101_108.out _; (with_reducible repeat (first | refine blk_drewN ?_ _ | refine blk_drew ?_ | refine blk_alloc ?_ _)); exact BK101.out⟩, ⟨by (with_reducible repeat (first | refine blk_drewN ?_ _ | refine blk_drew ?_ | refine blk_alloc ?_ _)); refine blk_far ?_ NB102_108.out _; (with_reducible repeat (first | refine blk_drewN ?_ _ | refine blk_drew ?_ | refine blk_alloc ?_ _)); exact BK102.out⟩, ⟨by (with_reducible repeat (first | refine blk_drewN ?_ _ | refine blk_drew ?_ | refine blk_alloc ?_ _)); refine blk_put (cs := #[u109000, .slice A0_1 y103.length c0_1]) ?_ 0 _ rfl; (with_reducible repeat (first | refine blk_drewN ?_ _ | refine blk_drew ?_ | refine blk_alloc ?_ _)); exact BK108.out⟩, ⟨by repeat (first | (with_reducible first | exact HB.out | apply below_alloc | apply pw_below_drewN | apply below_drew1 | refine below_set ?_ GE101.out | refine below_set ?_ GE102.out | refine below_set ?_ GE108.out) | exact HB.out)⟩⟩
                    · rw [if_neg c20] at H
                      exact absurd H (by simp)
                  · rw [if_neg c19] at H
                    exact absurd H (by simp)
                · rw [if_neg c18] at H
                  exact absurd H (by simp)
              · rw [if_neg c16] at H
                exact absurd H (by simp)
            · rw [if_neg c15] at H
              have c15b0 : decide (x4_1 < 41) = false := decide_eq_false c15
              clear c15
              simp only [Option.some.injEq, Prod.mk.injEq] at H
              obtain ⟨rfl, rfl⟩ := H
              have hnb28 := NB101_102.out
              have hnc28 := NB102_101.out
              have hnb29 := NB101_108.out
              have hnc29 := NB108_101.out
              have hcz30_0 : wr.cell? ⟨gb101, 0, none⟩ = some (.slice A0_0 l0_0.length c0_0) := (blk_cell BK101.out 0).trans rfl
              have hcz30_1 : wr.cell? ⟨gb101, 1, none⟩ = some (.slice A0_1 l0_1.length c0_1) := (blk_cell BK101.out 1).trans rfl
              have hfz30_0 := blk_frozen BK101.out 0
              have hfz30_1 := blk_frozen BK101.out 1
              have hnb31 := NB108_102.out
              have hnc31 := NB102_108.out
              have hcz32_0 : wr.cell? ⟨gb108, 0, none⟩ = some (u109000) := (blk_cell BK108.out 0).trans rfl
              have hcz32_1 : wr.cell? ⟨gb108, 1, none⟩ = some (.slice A0_1 y103.length c0_1) := (blk_cell BK108.out 1).trans rfl
              have hfz32_0 := blk_frozen BK108.out 0
              have hfz32_1 := blk_frozen BK108.out 1
              obtain ⟨Ao33, co33, eo33⟩ := Kd.R_slice HO_109000.out
              subst eo33
              have hcz34_0 : wr.cell? ⟨gb102, 0, none⟩ = some (.slice none 0 0) := (blk_cell BK102.out 0).trans rfl
              have hcz34_1 : wr.cell? ⟨gb102, 1, none⟩ = some (.slice none 0 0) := (blk_cell BK102.out 1).trans rfl
              have hfz34_0 := blk_frozen BK102.out 0
              have hfz34_1 := blk_frozen BK102.out 1
              go_wp2
              refine bodyPost_ret (results_cell_row rfl _ _ gb102 28 #[.slice Ao33 x109000_1.length co33, .slice A0_1 y103.length c0_1] (0, 0) _ rfl (by (with_reducible repeat (first | refine blk_drewN ?_ _ | refine blk_drew ?_ | refine blk_alloc ?_ _)); refine blk_put (cs := #[.slice Ao33 x109000_1.length co33, .slice none 0 0]) ?_ 1 _ rfl; (with_reducible repeat (first | refine blk_drewN ?_ _ | refine blk_drew ?_ | refine blk_alloc ?_ _)); refine blk_put (cs := #[.slice none 0 0, .slice none 0 0]) ?_ 0 _ rfl; (with_reducible repeat (first | refine blk_drewN ?_ _ | refine blk_drew ?_ | refine blk_alloc ?_ _)); exact BK102.out) Tryd.underlying28 rfl (by kernel_rfl)) rfl ?_
              exact ⟨_, _, by first | rfl | (simp [errW_none, errW_some] <;> rfl) | (simp only [← hji2]; first | rfl | (simp [errW_none, errW_some] <;> rfl)) | (simp [*, errW_none, errW_some] <;> rfl), by (with_reducible repeat (first | apply Kd.R_alloc | apply Kd.R_drewN | apply Kd.R_drew)); exact Kd.R_mono (Kd.R_far (p := ⟨gb102, 1, none⟩) (Kd.R_far (p := ⟨gb102, 0, none⟩) (Kd.R_types HO_109000.out BK102.out (by decide)) (fun _ hk => hk.2) (.slice Ao33 x109000_1.length co33)) (fun _ hk => hk.2) (.slice A0_1 y103.length c0_1)) (fun _ hk => hk.1), by (with_reducible repeat (first | apply Kd.V_alloc | apply Kd.V_drewN | apply Kd.V_drew)); exact Kd.V_mono (Kd.V_far (p := ⟨gb102, 1, none⟩) (Kd.V_far (p := ⟨gb102, 0, none⟩) (Kd.V_mono HO_109001.out (fun k_ hk => (⟨hk, hk.2.2.2.1⟩ : _ ∧ k_ ≠ gb102))) (fun _ hk => hk.2) (.slice Ao33 x109000_1.length co33)) (fun _ hk => hk.2) (.slice A0_1 y103.length c0_1)) (fun _ hk => ⟨hk.1.1, hk.1.2.1⟩), by repeat (first | (with_reducible first | exact HB.out | apply below_alloc | apply pw_below_drewN | apply below_drew1 | refine below_set ?_ GE101.out | refine below_set ?_ GE102.out | refine below_set ?_ GE108.out) | exact HB.out)⟩
          · rw [if_neg c14] at H
            have c14b0 : decide (x4_1 < (l0_0.length : Int)) = false := decide_eq_false c14
            clear c14
            simp only [Option.some.injEq, Prod.mk.injEq] at H
            obtain ⟨rfl, rfl⟩ := H
            have hnb35 := NB101_102.out
            have hnc35 := NB102_101.out
            have hnb36 := NB101_108.out
            have hnc36 := NB108_101.out
            have hcz37_0 : wr.cell? ⟨gb101, 0, none⟩ = some (.slice A0_0 l0_0.length c0_0) := (blk_cell BK101.out 0).trans rfl
            have hcz37_1 : wr.cell? ⟨gb101, 1, none⟩ = some (.slice A0_1 l0_1.length c0_1) := (blk_cell BK101.out 1).trans rfl
            have hfz37_0 := blk_frozen BK101.out 0
            have hfz37_1 := blk_frozen BK101.out 1
            have hnb38 := NB108_102.out
            have hnc38 := NB102_108.out
            have hcz39_0 : wr.cell? ⟨gb108, 0, none⟩ = some (u109000) := (blk_cell BK108.out 0).trans rfl
            have hcz39_1 : wr.cell? ⟨gb108, 1, none⟩ = some (.slice A0_1 y103.length c0_1) := (blk_cell BK108.out 1).trans rfl
            have hfz39_0 := blk_frozen BK108.out 0
            have hfz39_1 := blk_frozen BK108.out 1
            obtain ⟨Ao40, co40, eo40⟩ := Kd.R_slice HO_109000.out
            subst eo40
            have hcz41_0 : wr.cell? ⟨gb102, 0, none⟩ = some (.slice none 0 0) := (blk_cell BK102.out 0).trans rfl
            have hcz41_1 : wr.cell? ⟨gb102, 1, none⟩ = some (.slice none 0 0) := (blk_cell BK102.out 1).trans rfl
            have hfz41_0 := blk_frozen BK102.out 0
            have hfz41_1 := blk_frozen BK102.out 1
            go_wp2
            refine bodyPost_ret (results_cell_row rfl _ _ gb102 28 #[.slice Ao40 x109000_1.length co40, .slice A0_1 y103.length c0_1] (0, 0) _ rfl (by (with_reducible repeat (first | refine blk_drewN ?_ _ | refine blk_drew ?_ | refine blk_alloc ?_ _)); refine blk_put (cs := #[.slice Ao40 x109000_1.length co40, .slice none 0 0]) ?_ 1 _ rfl; (with_reducible repeat (first | refine blk_drewN ?_ _ | refine blk_drew ?_ | refine blk_alloc ?_ _)); refine blk_put (cs := #[.slice none 0 0, .slice none 0 0]) ?_ 0 _ rfl; (with_reducible repeat (first | refine blk_drewN ?_ _ | refine blk_drew ?_ | refine blk_alloc ?_ _)); exact BK102.out) Tryd.underlying28 rfl (by kernel_rfl)) rfl ?_
            exact ⟨_, _, by first | rfl | (simp [errW_none, errW_some] <;> rfl) | (simp only [← hji2]; first | rfl | (simp [errW_none, errW_some] <;> rfl)) | (simp [*, errW_none, errW_some] <;> rfl), by (with_reducible repeat (first | apply Kd.R_alloc | apply Kd.R_drewN | apply Kd.R_drew)); exact Kd.R_mono (Kd.R_far (p := ⟨gb102, 1, none⟩) (Kd.R_far (p := ⟨gb102, 0, none⟩) (Kd.R_types HO_109000.out BK102.out (by decide)) (fun _ hk => hk.2) (.slice Ao40 x109000_1.length co40)) (fun _ hk => hk.2) (.slice A0_1 y103.length c0_1)) (fun _ hk => hk.1), by (with_reducible repeat (first | apply Kd.V_alloc | apply Kd.V_drewN | apply Kd.V_drew)); exact Kd.V_mono (Kd.V_far (p := ⟨gb102, 1, none⟩) (Kd.V_far (p := ⟨gb102, 0, none⟩) (Kd.V_mono HO_109001.out (fun k_ hk => (⟨hk, hk.2.2.2.1⟩ : _ ∧ k_ ≠ gb102))) (fun _ hk => hk.2) (.slice Ao40 x109000_1.length co40)) (fun _ hk => hk.2) (.slice A0_1 y103.length c0_1)) (fun _ hk => ⟨hk.1.1, hk.1.2.1⟩), by repeat (first | (with_reducible first | exact HB.out | apply below_alloc | apply pw_below_drewN | apply below_drew1 | refine below_set ?_ GE101.out | refine below_set ?_ GE102.out | refine below_set ?_ GE108.out) | exact HB.out)⟩
    · rw [if_neg c4] at H
      exact absurd H (by simp)
  · rw [if_neg c3] at H
    exact absurd H (by simp)
end Go.Proofs.YtkgicpnnlkcaeaaDoor.F
end
section
namespace Go.Proofs.YtkgicpnnlkcaeaaDoor.F
open Go.RowKit Go.Proofs.YtkgicpnnlkcaeaaDoorW.PrintWords Go.Proofs.YtkgicpnnlkcaeaaDoorW.PrintLast Go.Proofs.YtkgicpnnlkcaeaaDoorW.PrintMore
attribute [local go_sem] max2_int min2_int max_two min_two max_three min_three max_four min_four cell_setCell_isSome
set_option linter.unusedVariables false
set_option linter.unusedSimpArgs false
mutual
def epitomeref06_Same.j0 : Nat → Bool → List ByteArray → List Bool → List ByteArray → List Bool → Option (Bool)
  | 0, _, _, _, _, _ => none
  | k + 1, x22, x102000, x102001, x103000, x103001 => if x22 = true then (some false) else (epitomeref06_Same.l0 k 0 x102000 x102001 x103000 x103001)
def epitomeref06_Same.l0 : Nat → Int → List ByteArray → List Bool → List ByteArray → List Bool → Option (Bool)
  | 0, _, _, _, _, _ => none
  | k + 1, x5, x102000, x102001, x103000, x103001 => if x5 < (x102000.length : Int) then (if 0 ≤ x5 then (if x5 < (x103000.length : Int) then (if (rdOf ByteArray.empty x102000 x5).toList = (rdOf ByteArray.empty x103000 x5).toList then (epitomeref06_Same.l0 k (wrap64 (x5 + 1)) x102000 x102001 x103000 x103001) else (some false)) else (none)) else (none)) else (epitomeref06_Same.l1 k 0 x102000 x102001 x103000 x103001)
def epitomeref06_Same.l1 : Nat → Int → List ByteArray → List Bool → List ByteArray → List Bool → Option (Bool)
  | 0, _, _, _, _, _ => none
  | k + 1, x6, x102000, x102001, x103000, x103001 => if x6 < (x102001.length : Int) then (if 0 ≤ x6 then (if x6 < (x103001.length : Int) then (if ((rdOf false x102001 x6) != (rdOf false x103001 x6)) = true then (some false) else (epitomeref06_Same.l1 k (wrap64 (x6 + 1)) x102000 x102001 x103000 x103001)) else (none)) else (none)) else (some true)
end
def epitomeref06_Same.f (k : Nat) (l0_0 : List ByteArray) (l0_1 : List Bool) (l1_0 : List ByteArray) (l1_1 : List Bool) : Option (Bool) := if (l0_0.length : Int) = (l1_0.length : Int) then (epitomeref06_Same.j0 k ((l0_1.length : Int) != (l1_1.length : Int)) l0_0 l0_1 l1_0 l1_1) else (epitomeref06_Same.j0 k true l0_0 l0_1 l1_0 l1_1)
set_option maxHeartbeats 8000000 in
set_option maxRecDepth 100000 in
theorem epitomeref06_Same.calls (k : Nat) (A0_0 : Option Addr) (c0_0 : Nat) (l0_0 : List ByteArray) (A0_1 : Option Addr) (c0_1 : Nat) (l0_1 : List Bool) (A1_0 : Option Addr) (c1_0 : Nat) (l1_0 : List ByteArray) (A1_1 : Option Addr) (c1_1 : Nat) (l1_1 : List Bool) (r : Bool) (w : World) (hr0_0 : Kd.C Kd.string w A0_0 l0_0.length l0_0) (hc0_0 : l0_0.length ≤ c0_0) (hr0_1 : Kd.C Kd.bool w A0_1 l0_1.length l0_1) (hc0_1 : l0_1.length ≤ c0_1) (hr1_0 : Kd.C Kd.string w A1_0 l1_0.length l1_0) (hc1_0 : l1_0.length ≤ c1_0) (hr1_1 : Kd.C Kd.bool w A1_1 l1_1.length l1_1) (hc1_1 : l1_1.length ≤ c1_1) (h : epitomeref06_Same.f k l0_0 l0_1 l1_0 l1_1 = some r) :
    Calls Tryd.prog 19 #[.agg #[.slice A0_0 l0_0.length c0_0, .slice A0_1 l0_1.length c0_1], .agg #[.slice A1_0 l1_0.length c1_0, .slice A1_1 l1_1.length c1_1]] w fun e w' => e = .returned (.bool r) ∧ Below w.heap.size w w' := by
  have hu28 := Tryd.underlying28
  have HR0_0 := Aside0.mk hr0_0
  have HC0_0 := Aside0.mk hc0_0
  clear hr0_0 hc0_0
  have HR0_1 := Aside0.mk hr0_1
  have HC0_1 := Aside0.mk hc0_1
  clear hr0_1 hc0_1
  have HR1_0 := Aside0.mk hr1_0
  have HC1_0 := Aside0.mk hc1_0
  clear hr1_0 hc1_0
  have HR1_1 := Aside0.mk hr1_1
  have HC1_1 := Aside0.mk hc1_1
  clear hr1_1 hc1_1
  have HB := Aside0.mk (Below.refl w.heap.size w)
  have H : (if (l0_0.length : Int) = (l1_0.length : Int) then (epitomeref06_Same.j0 k ((l0_1.length : Int) != (l1_1.length : Int)) l0_0 l0_1 l1_0 l1_1) else (epitomeref06_Same.j0 k true l0_0 l0_1 l1_0 l1_1)) = some r := h
  clear h
  have HC3 := Aside0.mk H
  clear H
  go_enter Tryd.func19, Tryd.ntmps19
  go_upto_region 1 with (first | ((with_reducible refine gate_dst (N := 2) rfl ?_); (try (refine gate_guard (by rfl) ?_; dsimp only)); refine box_event ?hg (N := 2) ?hd (cs := #[.slice A0_0 l0_0.length c0_0, .slice A0_1 l0_1.length c0_1]) (t := 28) ?hr ?_; (case hd => rfl); (case hg => rfl); (case hr => first | (go_simp; done) | (go_simp; rfl)); intro gb101 hg w4 hbox hb; have n0_ := Aside0.mk (below_step (by repeat (first | (with_reducible first | exact HB.out | apply below_alloc | apply pw_below_drewN | apply below_drew1) | exact HB.out)) hb); have n1_ := Aside0.mk (hbox); have n2_ := Aside0.mk ((by rw [hg]; exact (below_size (by repeat (first | (with_reducible first | exact HB.out | apply below_alloc | apply pw_below_drewN | apply below_drew1) | exact HB.out))) : w.heap.size ≤ gb101)); have n3_ := Aside0.mk ((by rw [hg]; exact (below_size (by repeat (first | (with_reducible first | exact HB.out | apply below_alloc | apply pw_below_drewN | apply below_drew1) | exact HB.out))) : w.heap.size ≤ gb101)); clear HB; have HB := n0_; have BK101 := n1_; have GW101 := n2_; have GE101 := n3_; clear n0_ n1_ n2_ n3_; clear hb hbox hg) | ((with_reducible refine gate_dst (N := 3) rfl ?_); (try (refine gate_guard (by rfl) ?_; dsimp only)); refine box_event ?hg (N := 3) ?hd (cs := #[.slice A1_0 l1_0.length c1_0, .slice A1_1 l1_1.length c1_1]) (t := 28) ?hr ?_; (case hd => rfl); (case hg => rfl); (case hr => first | (go_simp; done) | (go_simp; rfl)); intro gb102 hg w5 hbox hb; have n0_ := Aside0.mk (blk_below (g := gb101) (o := .cells #[.slice A0_0 l0_0.length c0_0, .slice A0_1 l0_1.length c0_1] 28 (0, 0)) (by (with_reducible repeat (first | refine blk_drewN ?_ _ | refine blk_drew ?_ | refine blk_alloc ?_ _)); exact BK101.out) hb); have n1_ := Aside0.mk (below_step (by repeat (first | (with_reducible first | exact HB.out | apply below_alloc | apply pw_below_drewN | apply below_drew1 | refine below_set ?_ GE101.out) | exact HB.out)) hb); have n2_ := Aside0.mk (hbox); have n3_ := Aside0.mk ((by rw [hg]; exact (below_size (by repeat (first | (with_reducible first | exact HB.out | apply below_alloc | apply pw_below_drewN | apply below_drew1 | refine below_set ?_ GE101.out) | exact HB.out))) : w.heap.size ≤ gb102)); have n4_ := Aside0.mk ((by rw [hg]; exact (below_size (by repeat (first | (with_reducible first | exact HB.out | apply below_alloc | apply pw_below_drewN | apply below_drew1 | refine below_set ?_ GE101.out) | exact HB.out))) : w.heap.size ≤ gb102)); have n5_ := Aside0.mk ((by rw [hg]; exact Nat.ne_of_lt (blk_lt (g := gb101) (o := .cells #[.slice A0_0 l0_0.length c0_0, .slice A0_1 l0_1.length c0_1] 28 (0, 0)) (by (with_reducible repeat (first | refine blk_drewN ?_ _ | refine blk_drew ?_ | refine blk_alloc ?_ _)); exact BK101.out)) : gb101 ≠ gb102)); have n6_ := Aside0.mk ((by rw [hg]; exact Nat.ne_of_gt (blk_lt (g := gb101) (o := .cells #[.slice A0_0 l0_0.length c0_0, .slice A0_1 l0_1.length c0_1] 28 (0, 0)) (by (with_reducible repeat (first | refine blk_drewN ?_ _ | refine blk_drew ?_ | refine blk_alloc ?_ _)); exact BK101.out)) : gb102 ≠ gb101)); clear BK101; clear HB; have BK101 := n0_; have HB := n1_; have BK102 := n2_; have GW102 := n3_; have GE102 := n4_; have NB101_102 := n5_; have NB102_101 := n6_; clear n0_ n1_ n2_ n3_ n4_ n5_ n6_; clear hb hbox hg))
  repeat (go_quiet (first | ((with_reducible refine gate_dst (N := 2) rfl ?_); (try (refine gate_guard (by rfl) ?_; dsimp only)); refine box_event ?hg (N := 2) ?hd (cs := #[.slice A0_0 l0_0.length c0_0, .slice A0_1 l0_1.length c0_1]) (t := 28) ?hr ?_; (case hd => rfl); (case hg => rfl); (case hr => first | (go_simp; done) | (go_simp; rfl)); intro gb101 hg w4 hbox hb; have n0_ := Aside0.mk (below_step (by repeat (first | (with_reducible first | exact HB.out | apply below_alloc | apply pw_below_drewN | apply below_drew1) | exact HB.out)) hb); have n1_ := Aside0.mk (hbox); have n2_ := Aside0.mk ((by rw [hg]; exact (below_size (by repeat (first | (with_reducible first | exact HB.out | apply below_alloc | apply pw_below_drewN | apply below_drew1) | exact HB.out))) : w.heap.size ≤ gb101)); have n3_ := Aside0.mk ((by rw [hg]; exact (below_size (by repeat (first | (with_reducible first | exact HB.out | apply below_alloc | apply pw_below_drewN | apply below_drew1) | exact HB.out))) : w.heap.size ≤ gb101)); clear HB; have HB := n0_; have BK101 := n1_; have GW101 := n2_; have GE101 := n3_; clear n0_ n1_ n2_ n3_; clear hb hbox hg) | ((with_reducible refine gate_dst (N := 3) rfl ?_); (try (refine gate_guard (by rfl) ?_; dsimp only)); refine box_event ?hg (N := 3) ?hd (cs := #[.slice A1_0 l1_0.length c1_0, .slice A1_1 l1_1.length c1_1]) (t := 28) ?hr ?_; (case hd => rfl); (case hg => rfl); (case hr => first | (go_simp; done) | (go_simp; rfl)); intro gb102 hg w5 hbox hb; have n0_ := Aside0.mk (blk_below (g := gb101) (o := .cells #[.slice A0_0 l0_0.length c0_0, .slice A0_1 l0_1.length c0_1] 28 (0, 0)) (by (with_reducible repeat (first | refine blk_drewN ?_ _ | refine blk_drew ?_ | refine blk_alloc ?_ _)); exact BK101.out) hb); have n1_ := Aside0.mk (below_step (by repeat (first | (with_reducible first | exact HB.out | apply below_alloc | apply pw_below_drewN | apply below_drew1 | refine below_set ?_ GE101.out) | exact HB.out)) hb); have n2_ := Aside0.mk (hbox); have n3_ := Aside0.mk ((by rw [hg]; exact (below_size (by repeat (first | (with_reducible first | exact HB.out | apply below_alloc | apply pw_below_drewN | apply below_drew1 | refine below_set ?_ GE101.out) | exact HB.out))) : w.heap.size ≤ gb102)); have n4_ := Aside0.mk ((by rw [hg]; exact (below_size (by repeat (first | (with_reducible first | exact HB.out | apply below_alloc | apply pw_below_drewN | apply below_drew1 | refine below_set ?_ GE101.out) | exact HB.out))) : w.heap.size ≤ gb102)); have n5_ := Aside0.mk ((by rw [hg]; exact Nat.ne_of_lt (blk_lt (g := gb101) (o := .cells #[.slice A0_0 l0_0.length c0_0, .slice A0_1 l0_1.length c0_1] 28 (0, 0)) (by (with_reducible repeat (first | refine blk_drewN ?_ _ | refine blk_drew ?_ | refine blk_alloc ?_ _)); exact BK101.out)) : gb101 ≠ gb102)); have n6_ := Aside0.mk ((by rw [hg]; exact Nat.ne_of_gt (blk_lt (g := gb101) (o := .cells #[.slice A0_0 l0_0.length c0_0, .slice A0_1 l0_1.length c0_1] 28 (0, 0)) (by (with_reducible repeat (first | refine blk_drewN ?_ _ | refine blk_drew ?_ | refine blk_alloc ?_ _)); exact BK101.out)) : gb102 ≠ gb101)); clear BK101; clear HB; have BK101 := n0_; have HB := n1_; have BK102 := n2_; have GW102 := n3_; have GE102 := n4_; have NB101_102 := n5_; have NB102_101 := n6_; clear n0_ n1_ n2_ n3_ n4_ n5_ n6_; clear hb hbox hg)); go_upto_region 1 with (first | ((with_reducible refine gate_dst (N := 2) rfl ?_); (try (refine gate_guard (by rfl) ?_; dsimp only)); refine box_event ?hg (N := 2) ?hd (cs := #[.slice A0_0 l0_0.length c0_0, .slice A0_1 l0_1.length c0_1]) (t := 28) ?hr ?_; (case hd => rfl); (case hg => rfl); (case hr => first | (go_simp; done) | (go_simp; rfl)); intro gb101 hg w4 hbox hb; have n0_ := Aside0.mk (below_step (by repeat (first | (with_reducible first | exact HB.out | apply below_alloc | apply pw_below_drewN | apply below_drew1) | exact HB.out)) hb); have n1_ := Aside0.mk (hbox); have n2_ := Aside0.mk ((by rw [hg]; exact (below_size (by repeat (first | (with_reducible first | exact HB.out | apply below_alloc | apply pw_below_drewN | apply below_drew1) | exact HB.out))) : w.heap.size ≤ gb101)); have n3_ := Aside0.mk ((by rw [hg]; exact (below_size (by repeat (first | (with_reducible first | exact HB.out | apply below_alloc | apply pw_below_drewN | apply below_drew1) | exact HB.out))) : w.heap.size ≤ gb101)); clear HB; have HB := n0_; have BK101 := n1_; have GW101 := n2_; have GE101 := n3_; clear n0_ n1_ n2_ n3_; clear hb hbox hg) | ((with_reducible refine gate_dst (N := 3) rfl ?_); (try (refine gate_guard (by rfl) ?_; dsimp only)); refine box_event ?hg (N := 3) ?hd (cs := #[.slice A1_0 l1_0.length c1_0, .slice A1_1 l1_1.length c1_1]) (t := 28) ?hr ?_; (case hd => rfl); (case hg => rfl); (case hr => first | (go_simp; done) | (go_simp; rfl)); intro gb102 hg w5 hbox hb; have n0_ := Aside0.mk (blk_below (g := gb101) (o := .cells #[.slice A0_0 l0_0.length c0_0, .slice A0_1 l0_1.length c0_1] 28 (0, 0)) (by (with_reducible repeat (first | refine blk_drewN ?_ _ | refine blk_drew ?_ | refine blk_alloc ?_ _)); exact BK101.out) hb); have n1_ := Aside0.mk (below_step (by repeat (first | (with_reducible first | exact HB.out | apply below_alloc | apply pw_below_drewN | apply below_drew1 | refine below_set ?_ GE101.out) | exact HB.out)) hb); have n2_ := Aside0.mk (hbox); have n3_ := Aside0.mk ((by rw [hg]; exact (below_size (by repeat (first | (with_reducible first | exact HB.out | apply below_alloc | apply pw_below_drewN | apply below_drew1 | refine below_set ?_ GE101.out) | exact HB.out))) : w.heap.size ≤ gb102)); have n4_ := Aside0.mk ((by rw [hg]; exact (below_size (by repeat (first | (with_reducible first | exact HB.out | apply below_alloc | apply pw_below_drewN | apply below_drew1 | refine below_set ?_ GE101.out) | exact HB.out))) : w.heap.size ≤ gb102)); have n5_ := Aside0.mk ((by rw [hg]; exact Nat.ne_of_lt (blk_lt (g := gb101) (o := .cells #[.slice A0_0 l0_0.length c0_0, .slice A0_1 l0_1.length c0_1] 28 (0, 0)) (by (with_reducible repeat (first | refine blk_drewN ?_ _ | refine blk_drew ?_ | refine blk_alloc ?_ _)); exact BK101.out)) : gb101 ≠ gb102)); have n6_ := Aside0.mk ((by rw [hg]; exact Nat.ne_of_gt (blk_lt (g := gb101) (o := .cells #[.slice A0_0 l0_0.length c0_0, .slice A0_1 l0_1.length c0_1] 28 (0, 0)) (by (with_reducible repeat (first | refine blk_drewN ?_ _ | refine blk_drew ?_ | refine blk_alloc ?_ _)); exact BK101.out)) : gb102 ≠ gb101)); clear BK101; clear HB; have BK101 := n0_; have HB := n1_; have BK102 := n2_; have GW102 := n3_; have GE102 := n4_; have NB101_102 := n5_; have NB102_101 := n6_; clear n0_ n1_ n2_ n3_ n4_ n5_ n6_; clear hb hbox hg)))
  (try simp only [Act.put, List.setIfInBounds_toArray, List.set_cons_zero, List.set_cons_succ])
  go_cut [22] (fun v22 wc => ∃ (kq : Nat) (x22_2 : Bool), v22 = .bool x22_2 ∧ Aside0 (epitomeref06_Same.j0 kq x22_2 l0_0 l0_1 l1_0 l1_1 = some r) ∧ Aside0 (kq ≤ k) ∧ Aside0 (wc.heap[gb101]? = some (.cells #[(.slice A0_0 l0_0.length c0_0), (.slice A0_1 l0_1.length c0_1)] 28 (0, 0))) ∧ Aside0 (wc.heap[gb102]? = some (.cells #[(.slice A1_0 l1_0.length c1_0), (.slice A1_1 l1_1.length c1_1)] 28 (0, 0))) ∧ Aside0 (Below w.heap.size w wc))
  case first =>
    have H := HC3.out
    clear HC3
    by_cases c6 : (l0_0.length : Int) = (l1_0.length : Int)
    · rw [if_pos c6] at H
      have c6b0 : ((l0_0.length : Int) == (l1_0.length : Int)) = true := beq_iff_eq.mpr c6
      have c6b1 : ((l0_0.length : Int) != (l1_0.length : Int)) = false := bne_eq_false_iff_eq.mpr c6
      have c6b2 : (l0_0.length == l1_0.length) = true := by first | simpa using c6 | (simp at c6 ⊢; omega)
      clear c6
      (first | rw [c6b0] | (simp only [i64_w, i32_w]; rw [c6b0]) | skip)
      have H' := Aside0.mk H
      clear H
      have hnb7 := NB101_102.out
      have hnc7 := NB102_101.out
      have hcz8_0 : w5.cell? ⟨gb101, 0, none⟩ = some (.slice A0_0 l0_0.length c0_0) := (blk_cell BK101.out 0).trans rfl
      have hcz8_1 : w5.cell? ⟨gb101, 1, none⟩ = some (.slice A0_1 l0_1.length c0_1) := (blk_cell BK101.out 1).trans rfl
      have hfz8_0 := blk_frozen BK101.out 0
      have hfz8_1 := blk_frozen BK101.out 1
      have hcz9_0 : w5.cell? ⟨gb102, 0, none⟩ = some (.slice A1_0 l1_0.length c1_0) := (blk_cell BK102.out 0).trans rfl
      have hcz9_1 : w5.cell? ⟨gb102, 1, none⟩ = some (.slice A1_1 l1_1.length c1_1) := (blk_cell BK102.out 1).trans rfl
      have hfz9_0 := blk_frozen BK102.out 0
      have hfz9_1 := blk_frozen BK102.out 1
      go_wp2
      repeat (go_quiet (fail); try go_wp2)
      go_meet
      case rel => exact ⟨_, (((l0_1.length : Int) != (l1_1.length : Int))), (by first | rfl | (simp; done) | (simp [*]; done) | (simp [isEmpty_bne]; done)), H', ⟨by first | omega | exact Nat.le_refl _⟩, ⟨by (with_reducible repeat (first | refine blk_drewN ?_ _ | refine blk_drew ?_ | refine blk_alloc ?_ _)); exact BK101.out⟩, ⟨by (with_reducible repeat (first | refine blk_drewN ?_ _ | refine blk_drew ?_ | refine blk_alloc ?_ _)); exact BK102.out⟩, ⟨by repeat (first | (with_reducible first | exact HB.out | apply below_alloc | apply pw_below_drewN | apply below_drew1 | refine below_set ?_ GE101.out | refine below_set ?_ GE102.out) | exact HB.out)⟩⟩
    · rw [if_neg c6] at H
      have c6b0 : ((l0_0.length : Int) == (l1_0.length : Int)) = false := beq_eq_false_iff_ne.mpr c6
      have c6b1 : ((l0_0.length : Int) != (l1_0.length : Int)) = true := bne_iff_ne.mpr c6
      have c6b2 : (l0_0.length == l1_0.length) = false := by first | simpa using c6 | (simp at c6 ⊢; omega)
      (first | rw [c6b0] | (simp only [i64_w, i32_w]; rw [c6b0]) | skip)
      have H' := Aside0.mk H
      clear H
      have hnb10 := NB101_102.out
      have hnc10 := NB102_101.out
      have hcz11_0 : w5.cell? ⟨gb101, 0, none⟩ = some (.slice A0_0 l0_0.length c0_0) := (blk_cell BK101.out 0).trans rfl
      have hcz11_1 : w5.cell? ⟨gb101, 1, none⟩ = some (.slice A0_1 l0_1.length c0_1) := (blk_cell BK101.out 1).trans rfl
      have hfz11_0 := blk_frozen BK101.out 0
      have hfz11_1 := blk_frozen BK101.out 1
      have hcz12_0 : w5.cell? ⟨gb102, 0, none⟩ = some (.slice A1_0 l1_0.length c1_0) := (blk_cell BK102.out 0).trans rfl
      have hcz12_1 : w5.cell? ⟨gb102, 1, none⟩ = some (.slice A1_1 l1_1.length c1_1) := (blk_cell BK102.out 1).trans rfl
      have hfz12_0 := blk_frozen BK102.out 0
      have hfz12_1 := blk_frozen BK102.out 1
      go_wp2
      repeat (go_quiet (fail); try go_wp2)
      go_meet
      case rel => exact ⟨_, (true), (by first | rfl | (simp; done) | (simp [*]; done) | (simp [isEmpty_bne]; done)), H', ⟨by first | omega | exact Nat.le_refl _⟩, ⟨by (with_reducible repeat (first | refine blk_drewN ?_ _ | refine blk_drew ?_ | refine blk_alloc ?_ _)); exact BK101.out⟩, ⟨by (with_reducible repeat (first | refine blk_drewN ?_ _ | refine blk_drew ?_ | refine blk_alloc ?_ _)); exact BK102.out⟩, ⟨by repeat (first | (with_reducible first | exact HB.out | apply below_alloc | apply pw_below_drewN | apply below_drew1 | refine below_set ?_ GE101.out | refine below_set ?_ GE102.out) | exact HB.out)⟩⟩
  case rest =>
    clear HC3
    try clear c1
    try clear p2
    try clear c6
    try clear c6b0
    try clear c6b1
    try clear c6b2
    try clear c7
    try clear c10
    try clear hcz11_0
    try clear hcz11_1
    try clear hcz12_0
    try clear hcz12_1
    try clear hcz8_0
    try clear hcz8_1
    try clear hcz9_0
    try clear hcz9_1
    try clear hfz11_0
    try clear hfz11_1
    try clear hfz12_0
    try clear hfz12_1
    try clear hfz8_0
    try clear hfz8_1
    try clear hfz9_0
    try clear hfz9_1
    obtain ⟨kq, x22_2, rfl, HA, HJ2, BK101, BK102, HB⟩ := hcut
    cases kq with
    | zero => exact absurd HA.out (by simp [epitomeref06_Same.j0])
    | succ kj2 =>
      have H := HA.out
      clear HA
      simp only [epitomeref06_Same.j0] at H
      by_cases c13 : x22_2 = true
      · subst c13
        have H1 : (some false) = some r := by rw [if_pos rfl] at H; exact H
        clear H
        have H := H1
        clear H1
        obtain rfl := Option.some.inj H
        go_wp2
        repeat (go_quiet (fail); try go_wp2)
        go_ret
        exact ⟨by first | rfl | (simp [errW_none, errW_some] <;> rfl) | (simp [*, errW_none, errW_some] <;> rfl), by repeat (first | (with_reducible first | exact HB.out | apply below_alloc | apply pw_below_drewN | apply below_drew1 | refine below_set ?_ GE101.out | refine below_set ?_ GE102.out) | exact HB.out)⟩
      · replace c13 := Bool.eq_false_iff.mpr c13
        subst c13
        have H1 : (epitomeref06_Same.l0 kj2 0 l0_0 l0_1 l1_0 l1_1) = some r := by rw [if_neg (show ¬ (false = true) by decide)] at H; exact H
        clear H
        have H := H1
        clear H1
        have H' := Aside0.mk H
        clear H
        go_wp2
        repeat (go_quiet (fail); try go_wp2)
        go_loopg [5] kj2 (fun kq v5 w' => ∃ (x5_2 : Int), v5 = .int .i64 x5_2 ∧ Aside0 (epitomeref06_Same.l0 kq x5_2 l0_0 l0_1 l1_0 l1_1 = some r) ∧ Aside0 (kq ≤ kj2) ∧ Aside0 (w'.heap[gb101]? = some (.cells #[(.slice A0_0 l0_0.length c0_0), (.slice A0_1 l0_1.length c0_1)] 28 (0, 0))) ∧ Aside0 (w'.heap[gb102]? = some (.cells #[(.slice A1_0 l1_0.length c1_0), (.slice A1_1 l1_1.length c1_1)] 28 (0, 0))) ∧ Aside0 (Below w.heap.size w w'))
        case atStart => exact ⟨(0), (by first | rfl | (simp; done) | (simp [*]; done) | (simp [isEmpty_bne]; done)), H', ⟨Nat.le_refl _⟩, ⟨by (with_reducible repeat (first | refine blk_drewN ?_ _ | refine blk_drew ?_ | refine blk_alloc ?_ _)); exact BK101.out⟩, ⟨by (with_reducible repeat (first | refine blk_drewN ?_ _ | refine blk_drew ?_ | refine blk_alloc ?_ _)); exact BK102.out⟩, ⟨by repeat (first | (with_reducible first | exact HB.out | apply below_alloc | apply pw_below_drewN | apply below_drew1 | refine below_set ?_ GE101.out | refine below_set ?_ GE102.out) | exact HB.out)⟩⟩
        case round =>
          clear H'
          try clear c1
          try clear p2
          try clear c6
          try clear c6b0
          try clear c6b1
          try clear c6b2
          try clear c7
          try clear c10
          try clear c13
          try clear hcz11_0
          try clear hcz11_1
          try clear hcz12_0
          try clear hcz12_1
          try clear hcz8_0
          try clear hcz8_1
          try clear hcz9_0
          try clear hcz9_1
          try clear hfz11_0
          try clear hfz11_1
          try clear hfz12_0
          try clear hfz12_1
          try clear hfz8_0
          try clear hfz8_1
          try clear hfz9_0
          try clear hfz9_1
          try clear p2
          obtain ⟨x5_2, rfl, HA, HK2, BK101, BK102, HB⟩ := hrel
          cases gk with
          | zero => exact absurd HA.out (by simp [epitomeref06_Same.l0])
          | succ k2 =>
            have H := HA.out
            clear HA
            simp only [epitomeref06_Same.l0] at H
            by_cases c14 : x5_2 < (l0_0.length : Int)
            · rw [if_pos c14] at H
              have c14b0 : decide (x5_2 < (l0_0.length : Int)) = true := decide_eq_true c14
              clear c14
              by_cases c15 : 0 ≤ x5_2
              · rw [if_pos c15] at H
                have c15b0 : decide (0 ≤ x5_2) = true := decide_eq_true c15
                clear c15
                by_cases c16 : x5_2 < (l1_0.length : Int)
                · rw [if_pos c16] at H
                  have c16b0 : decide (x5_2 < (l1_0.length : Int)) = true := decide_eq_true c16
                  clear c16
                  by_cases c17 : (rdOf ByteArray.empty l0_0 x5_2).toList = (rdOf ByteArray.empty l1_0 x5_2).toList
                  · rw [if_pos c17] at H
                    have c17b0 : ((rdOf ByteArray.empty l0_0 x5_2).toList == (rdOf ByteArray.empty l1_0 x5_2).toList) = true := beq_iff_eq.mpr c17
                    have c17b1 : ((rdOf ByteArray.empty l0_0 x5_2).toList != (rdOf ByteArray.empty l1_0 x5_2).toList) = false := bne_eq_false_iff_eq.mpr c17
                    clear c17
                    have H' := Aside0.mk H
                    clear H
                    have hnb18 := NB101_102.out
                    have hnc18 := NB102_101.out
                    have hcz19_0 : wr.cell? ⟨gb101, 0, none⟩ = some (.slice A0_0 l0_0.length c0_0) := (blk_cell BK101.out 0).trans rfl
                    have hcz19_1 : wr.cell? ⟨gb101, 1, none⟩ = some (.slice A0_1 l0_1.length c0_1) := (blk_cell BK101.out 1).trans rfl
                    have hfz19_0 := blk_frozen BK101.out 0
                    have hfz19_1 := blk_frozen BK101.out 1
                    have p103 : 0 ≤ (x5_2 : Int) := of_decide_eq_true (by first | (with_reducible assumption) | assumption)
                    have q103 : x5_2 < (l0_0.length : Int) := of_decide_eq_true (by first | (with_reducible assumption) | assumption)
                    obtain ⟨ad103, e103, hx103_0⟩ := Kd.at_string HR0_0.out x5_2 p103 q103
                    cases e103
                    replace hx103_0 := (HB.out.cell (World.block_lt_of_cell? w _ hx103_0)).trans hx103_0
                    replace p103 := eq_true p103
                    replace q103 := eq_true q103
                    have hcz20_0 : wr.cell? ⟨gb102, 0, none⟩ = some (.slice A1_0 l1_0.length c1_0) := (blk_cell BK102.out 0).trans rfl
                    have hcz20_1 : wr.cell? ⟨gb102, 1, none⟩ = some (.slice A1_1 l1_1.length c1_1) := (blk_cell BK102.out 1).trans rfl
                    have hfz20_0 := blk_frozen BK102.out 0
                    have hfz20_1 := blk_frozen BK102.out 1
                    have p104 : 0 ≤ (x5_2 : Int) := of_decide_eq_true (by first | (with_reducible assumption) | assumption)
                    have q104 : x5_2 < (l1_0.length : Int) := of_decide_eq_true (by first | (with_reducible assumption) | assumption)
                    obtain ⟨ad104, e104, hx104_0⟩ := Kd.at_string HR1_0.out x5_2 p104 q104
                    cases e104
                    replace hx104_0 := (HB.out.cell (World.block_lt_of_cell? w _ hx104_0)).trans hx104_0
                    replace p104 := eq_true p104
                    replace q104 := eq_true q104
                    go_wp2
                    repeat (go_quiet (fail); try go_wp2)
                    go_roundg k2
                    case measure => have := HJ2.out; have := HK2.out; omega
                    case rel => exact ⟨(wrap64 (x5_2 + 1)), (by first | rfl | (simp; done) | (simp [*]; done) | (simp [isEmpty_bne]; done)), H', ⟨by have := HJ2.out; have := HK2.out; omega⟩, ⟨by (with_reducible repeat (first | refine blk_drewN ?_ _ | refine blk_drew ?_ | refine blk_alloc ?_ _)); exact BK101.out⟩, ⟨by (with_reducible repeat (first | refine blk_drewN ?_ _ | refine blk_drew ?_ | refine blk_alloc ?_ _)); exact BK102.out⟩, ⟨by repeat (first | (with_reducible first | exact HB.out | apply below_alloc | apply pw_below_drewN | apply below_drew1 | refine below_set ?_ GE101.out | refine below_set ?_ GE102.out) | exact HB.out)⟩⟩
                  · rw [if_neg c17] at H
                    have c17b0 : ((rdOf ByteArray.empty l0_0 x5_2).toList == (rdOf ByteArray.empty l1_0 x5_2).toList) = false := beq_eq_false_iff_ne.mpr c17
                    have c17b1 : ((rdOf ByteArray.empty l0_0 x5_2).toList != (rdOf ByteArray.empty l1_0 x5_2).toList) = true := bne_iff_ne.mpr c17
                    obtain rfl := Option.some.inj H
                    have hnb21 := NB101_102.out
                    have hnc21 := NB102_101.out
                    have hcz22_0 : wr.cell? ⟨gb101, 0, none⟩ = some (.slice A0_0 l0_0.length c0_0) := (blk_cell BK101.out 0).trans rfl
                    have hcz22_1 : wr.cell? ⟨gb101, 1, none⟩ = some (.slice A0_1 l0_1.length c0_1) := (blk_cell BK101.out 1).trans rfl
                    have hfz22_0 := blk_frozen BK101.out 0
                    have hfz22_1 := blk_frozen BK101.out 1
                    have p103 : 0 ≤ (x5_2 : Int) := of_decide_eq_true (by first | (with_reducible assumption) | assumption)
                    have q103 : x5_2 < (l0_0.length : Int) := of_decide_eq_true (by first | (with_reducible assumption) | assumption)
                    obtain ⟨ad103, e103, hx103_0⟩ := Kd.at_string HR0_0.out x5_2 p103 q103
                    cases e103
                    replace hx103_0 := (HB.out.cell (World.block_lt_of_cell? w _ hx103_0)).trans hx103_0
                    replace p103 := eq_true p103
                    replace q103 := eq_true q103
                    have hcz23_0 : wr.cell? ⟨gb102, 0, none⟩ = some (.slice A1_0 l1_0.length c1_0) := (blk_cell BK102.out 0).trans rfl
                    have hcz23_1 : wr.cell? ⟨gb102, 1, none⟩ = some (.slice A1_1 l1_1.length c1_1) := (blk_cell BK102.out 1).trans rfl
                    have hfz23_0 := blk_frozen BK102.out 0
                    have hfz23_1 := blk_frozen BK102.out 1
                    have p104 : 0 ≤ (x5_2 : Int) := of_decide_eq_true (by first | (with_reducible assumption) | assumption)
                    have q104 : x5_2 < (l1_0.length : Int) := of_decide_eq_true (by first | (with_reducible assumption) | assumption)
                    obtain ⟨ad104, e104, hx104_0⟩ := Kd.at_string HR1_0.out x5_2 p104 q104
                    cases e104
                    replace hx104_0 := (HB.out.cell (World.block_lt_of_cell? w _ hx104_0)).trans hx104_0
                    replace p104 := eq_true p104
                    replace q104 := eq_true q104
                    go_wp2
                    repeat (go_quiet (fail); try go_wp2)
                    go_ret
                    exact ⟨by first | rfl | (simp [errW_none, errW_some] <;> rfl) | (simp [*, errW_none, errW_some] <;> rfl), by repeat (first | (with_reducible first | exact HB.out | apply below_alloc | apply pw_below_drewN | apply below_drew1 | refine below_set ?_ GE101.out | refine below_set ?_ GE102.out) | exact HB.out)⟩
                · rw [if_neg c16] at H
                  exact absurd H (by simp)
              · rw [if_neg c15] at H
                exact absurd H (by simp)
            · rw [if_neg c14] at H
              have c14b0 : decide (x5_2 < (l0_0.length : Int)) = false := decide_eq_false c14
              clear c14
              have H' := Aside0.mk H
              clear H
              have hnb24 := NB101_102.out
              have hnc24 := NB102_101.out
              have hcz25_0 : wr.cell? ⟨gb101, 0, none⟩ = some (.slice A0_0 l0_0.length c0_0) := (blk_cell BK101.out 0).trans rfl
              have hcz25_1 : wr.cell? ⟨gb101, 1, none⟩ = some (.slice A0_1 l0_1.length c0_1) := (blk_cell BK101.out 1).trans rfl
              have hfz25_0 := blk_frozen BK101.out 0
              have hfz25_1 := blk_frozen BK101.out 1
              go_wp2
              repeat (go_quiet (fail); try go_wp2)
              go_loopg [6] k2 (fun kq v6 w' => ∃ (x6_3 : Int), v6 = .int .i64 x6_3 ∧ Aside0 (epitomeref06_Same.l1 kq x6_3 l0_0 l0_1 l1_0 l1_1 = some r) ∧ Aside0 (kq ≤ k2) ∧ Aside0 (w'.heap[gb101]? = some (.cells #[(.slice A0_0 l0_0.length c0_0), (.slice A0_1 l0_1.length c0_1)] 28 (0, 0))) ∧ Aside0 (w'.heap[gb102]? = some (.cells #[(.slice A1_0 l1_0.length c1_0), (.slice A1_1 l1_1.length c1_1)] 28 (0, 0))) ∧ Aside0 (Below w.heap.size w w'))
              case atStart => exact ⟨(0), (by first | rfl | (simp; done) | (simp [*]; done) | (simp [isEmpty_bne]; done)), H', ⟨Nat.le_refl _⟩, ⟨by (with_reducible repeat (first | refine blk_drewN ?_ _ | refine blk_drew ?_ | refine blk_alloc ?_ _)); exact BK101.out⟩, ⟨by (with_reducible repeat (first | refine blk_drewN ?_ _ | refine blk_drew ?_ | refine blk_alloc ?_ _)); exact BK102.out⟩, ⟨by repeat (first | (with_reducible first | exact HB.out | apply below_alloc | apply pw_below_drewN | apply below_drew1 | refine below_set ?_ GE101.out | refine below_set ?_ GE102.out) | exact HB.out)⟩⟩
              case round =>
                clear H'
                try clear c1
                try clear p1
                try clear q1
                try clear hx1
                try clear c2
                try clear p2
                try clear c6
                try clear c6b0
                try clear c6b1
                try clear c6b2
                try clear p6
                try clear c7
                try clear c10
                try clear p10
                try clear q10
                try clear hx10
                try clear c13
                try clear c14
                try clear c14b0
                try clear c15
                try clear c15b0
                try clear c16
                try clear c16b0
                try clear c17
                try clear c17b0
                try clear c17b1
                try clear c18
                try clear c19
                try clear c21
                try clear c24
                try clear hcz11_0
                try clear hcz11_1
                try clear hcz12_0
                try clear hcz12_1
                try clear hcz19_0
                try clear hcz19_1
                try clear hcz20_0
                try clear hcz20_1
                try clear hcz22_0
                try clear hcz22_1
                try clear hcz23_0
                try clear hcz23_1
                try clear hcz25_0
                try clear hcz25_1
                try clear hcz8_0
                try clear hcz8_1
                try clear hcz9_0
                try clear hcz9_1
                try clear hfz11_0
                try clear hfz11_1
                try clear hfz12_0
                try clear hfz12_1
                try clear hfz19_0
                try clear hfz19_1
                try clear hfz20_0
                try clear hfz20_1
                try clear hfz22_0
                try clear hfz22_1
                try clear hfz23_0
                try clear hfz23_1
                try clear hfz25_0
                try clear hfz25_1
                try clear hfz8_0
                try clear hfz8_1
                try clear hfz9_0
                try clear hfz9_1
                try clear hx103_0
                try clear hx104_0
                try clear p103
                try clear p104
                try clear p2
                try clear q103
                try clear q104
                obtain ⟨x6_3, rfl, HA, HK3, BK101, BK102, HB⟩ := hrel
                cases gk with
                | zero => exact absurd HA.out (by simp [epitomeref06_Same.l1])
                | succ k3 =>
                  have H := HA.out
                  clear HA
                  simp only [epitomeref06_Same.l1] at H
                  by_cases c26 : x6_3 < (l0_1.length : Int)
                  · rw [if_pos c26] at H
                    have c26b0 : decide (x6_3 < (l0_1.length : Int)) = true := decide_eq_true c26
                    clear c26
                    by_cases c27 : 0 ≤ x6_3
                    · rw [if_pos c27] at H
                      have c27b0 : decide (0 ≤ x6_3) = true := decide_eq_true c27
                      clear c27
                      by_cases c28 : x6_3 < (l1_1.length : Int)
                      · rw [if_pos c28] at H
                        have c28b0 : decide (x6_3 < (l1_1.length : Int)) = true := decide_eq_true c28
                        clear c28
                        by_cases c29 : ((rdOf false l0_1 x6_3) != (rdOf false l1_1 x6_3)) = true
                        · rw [if_pos c29] at H
                          have c29b0 : ((rdOf false l0_1 x6_3) != (rdOf false l1_1 x6_3)) = true := c29
                          (try (have c29b1 : decide ((rdOf false l0_1 x6_3) = (rdOf false l1_1 x6_3)) = false := by simpa using c29))
                          (try (have c29b2 : ((rdOf false l0_1 x6_3) == (rdOf false l1_1 x6_3)) = false := by simpa using c29))
                          (try (have c29b3 : ¬ ((rdOf false l0_1 x6_3) = (rdOf false l1_1 x6_3)) := by simpa using c29))
                          (try (have c29b4 : (rdOf false l0_1 x6_3) = true := neb_l (a := (rdOf false l0_1 x6_3)) (b := (rdOf false l1_1 x6_3)) (v := false) (by first | exact c29 | simpa using c29) (by assumption)))
                          (try (have c29b5 : (rdOf false l0_1 x6_3) = false := neb_l (a := (rdOf false l0_1 x6_3)) (b := (rdOf false l1_1 x6_3)) (v := true) (by first | exact c29 | simpa using c29) (by assumption)))
                          (try (have c29b6 : (rdOf false l1_1 x6_3) = true := neb_r (a := (rdOf false l0_1 x6_3)) (b := (rdOf false l1_1 x6_3)) (v := false) (by first | exact c29 | simpa using c29) (by assumption)))
                          (try (have c29b7 : (rdOf false l1_1 x6_3) = false := neb_r (a := (rdOf false l0_1 x6_3)) (b := (rdOf false l1_1 x6_3)) (v := true) (by first | exact c29 | simpa using c29) (by assumption)))
                          clear c29
                          obtain rfl := Option.some.inj H
                          have hnb30 := NB101_102.out
                          have hnc30 := NB102_101.out
                          have hcz31_0 : wr.cell? ⟨gb101, 0, none⟩ = some (.slice A0_0 l0_0.length c0_0) := (blk_cell BK101.out 0).trans rfl
                          have hcz31_1 : wr.cell? ⟨gb101, 1, none⟩ = some (.slice A0_1 l0_1.length c0_1) := (blk_cell BK101.out 1).trans rfl
                          have hfz31_0 := blk_frozen BK101.out 0
                          have hfz31_1 := blk_frozen BK101.out 1
                          have p105 : 0 ≤ (x6_3 : Int) := of_decide_eq_true (by first | (with_reducible assumption) | assumption)
                          have q105 : x6_3 < (l0_1.length : Int) := of_decide_eq_true (by first | (with_reducible assumption) | assumption)
                          obtain ⟨ad105, e105, hx105_0⟩ := Kd.at_bool HR0_1.out x6_3 p105 q105
                          cases e105
                          replace hx105_0 := (HB.out.cell (World.block_lt_of_cell? w _ hx105_0)).trans hx105_0
                          replace p105 := eq_true p105
                          replace q105 := eq_true q105
                          have hcz32_0 : wr.cell? ⟨gb102, 0, none⟩ = some (.slice A1_0 l1_0.length c1_0) := (blk_cell BK102.out 0).trans rfl
                          have hcz32_1 : wr.cell? ⟨gb102, 1, none⟩ = some (.slice A1_1 l1_1.length c1_1) := (blk_cell BK102.out 1).trans rfl
                          have hfz32_0 := blk_frozen BK102.out 0
                          have hfz32_1 := blk_frozen BK102.out 1
                          have p106 : 0 ≤ (x6_3 : Int) := of_decide_eq_true (by first | (with_reducible assumption) | assumption)
                          have q106 : x6_3 < (l1_1.length : Int) := of_decide_eq_true (by first | (with_reducible assumption) | assumption)
                          obtain ⟨ad106, e106, hx106_0⟩ := Kd.at_bool HR1_1.out x6_3 p106 q106
                          cases e106
                          replace hx106_0 := (HB.out.cell (World.block_lt_of_cell? w _ hx106_0)).trans hx106_0
                          replace p106 := eq_true p106
                          replace q106 := eq_true q106
                          go_wp2
                          repeat (go_quiet (fail); try go_wp2)
                          go_ret
                          exact ⟨by first | rfl | (simp [errW_none, errW_some] <;> rfl) | (simp [*, errW_none, errW_some] <;> rfl), by repeat (first | (with_reducible first | exact HB.out | apply below_alloc | apply pw_below_drewN | apply below_drew1 | refine below_set ?_ GE101.out | refine below_set ?_ GE102.out) | exact HB.out)⟩
                        · rw [if_neg c29] at H
                          have c29b0 : ((rdOf false l0_1 x6_3) != (rdOf false l1_1 x6_3)) = false := by simpa using c29
                          (try (have c29b1 : decide ((rdOf false l0_1 x6_3) = (rdOf false l1_1 x6_3)) = true := by simpa using c29))
                          (try (have c29b2 : ((rdOf false l0_1 x6_3) == (rdOf false l1_1 x6_3)) = true := by simpa using c29))
                          (try (have c29b3 : (rdOf false l0_1 x6_3) = true := eqb_l (a := (rdOf false l0_1 x6_3)) (b := (rdOf false l1_1 x6_3)) (v := true) (by first | exact c29 | simpa using c29) (by assumption)))
                          (try (have c29b4 : (rdOf false l0_1 x6_3) = false := eqb_l (a := (rdOf false l0_1 x6_3)) (b := (rdOf false l1_1 x6_3)) (v := false) (by first | exact c29 | simpa using c29) (by assumption)))
                          (try (have c29b5 : (rdOf false l1_1 x6_3) = true := eqb_r (a := (rdOf false l0_1 x6_3)) (b := (rdOf false l1_1 x6_3)) (v := true) (by first | exact c29 | simpa using c29) (by assumption)))
                          (try (have c29b6 : (rdOf false l1_1 x6_3) = false := eqb_r (a := (rdOf false l0_1 x6_3)) (b := (rdOf false l1_1 x6_3)) (v := false) (by first | exact c29 | simpa using c29) (by assumption)))
                          clear c29
                          have H' := Aside0.mk H
                          clear H
                          have hnb33 := NB101_102.out
                          have hnc33 := NB102_101.out
                          have hcz34_0 : wr.cell? ⟨gb101, 0, none⟩ = some (.slice A0_0 l0_0.length c0_0) := (blk_cell BK101.out 0).trans rfl
                          have hcz34_1 : wr.cell? ⟨gb101, 1, none⟩ = some (.slice A0_1 l0_1.length c0_1) := (blk_cell BK101.out 1).trans rfl
                          have hfz34_0 := blk_frozen BK101.out 0
                          have hfz34_1 := blk_frozen BK101.out 1
                          have p105 : 0 ≤ (x6_3 : Int) := of_decide_eq_true (by first | (with_reducible assumption) | assumption)
                          have q105 : x6_3 < (l0_1.length : Int) := of_decide_eq_true (by first | (with_reducible assumption) | assumption)
                          obtain ⟨ad105, e105, hx105_0⟩ := Kd.at_bool HR0_1.out x6_3 p105 q105
                          cases e105
                          replace hx105_0 := (HB.out.cell (World.block_lt_of_cell? w _ hx105_0)).trans hx105_0
                          replace p105 := eq_true p105
                          replace q105 := eq_true q105
                          have hcz35_0 : wr.cell? ⟨gb102, 0, none⟩ = some (.slice A1_0 l1_0.length c1_0) := (blk_cell BK102.out 0).trans rfl
                          have hcz35_1 : wr.cell? ⟨gb102, 1, none⟩ = some (.slice A1_1 l1_1.length c1_1) := (blk_cell BK102.out 1).trans rfl
                          have hfz35_0 := blk_frozen BK102.out 0
                          have hfz35_1 := blk_frozen BK102.out 1
                          have p106 : 0 ≤ (x6_3 : Int) := of_decide_eq_true (by first | (with_reducible assumption) | assumption)
                          have q106 : x6_3 < (l1_1.length : Int) := of_decide_eq_true (by first | (with_reducible assumption) | assumption)
                          obtain ⟨ad106, e106, hx106_0⟩ := Kd.at_bool HR1_1.out x6_3 p106 q106
                          cases e106
                          replace hx106_0 := (HB.out.cell (World.block_lt_of_cell? w _ hx106_0)).trans hx106_0
                          replace p106 := eq_true p106
                          replace q106 := eq_true q106
                          go_wp2
                          repeat (go_quiet (fail); try go_wp2)
                          go_roundg k3
                          case measure => have := HJ2.out; have := HK2.out; have := HK3.out; omega
                          case rel => exact ⟨(wrap64 (x6_3 + 1)), (by first | rfl | (simp; done) | (simp [*]; done) | (simp [isEmpty_bne]; done)), H', ⟨by have := HJ2.out; have := HK2.out; have := HK3.out; omega⟩, ⟨by (with_reducible repeat (first | refine blk_drewN ?_ _ | refine blk_drew ?_ | refine blk_alloc ?_ _)); exact BK101.out⟩, ⟨by (with_reducible repeat (first | refine blk_drewN ?_ _ | refine blk_drew ?_ | refine blk_alloc ?_ _)); exact BK102.out⟩, ⟨by repeat (first | (with_reducible first | exact HB.out | apply below_alloc | apply pw_below_drewN | apply below_drew1 | refine below_set ?_ GE101.out | refine below_set ?_ GE102.out) | exact HB.out)⟩⟩
                      · rw [if_neg c28] at H
                        exact absurd H (by simp)
                    · rw [if_neg c27] at H
                      exact absurd H (by simp)
                  · rw [if_neg c26] at H
                    have c26b0 : decide (x6_3 < (l0_1.length : Int)) = false := decide_eq_false c26
                    clear c26
                    obtain rfl := Option.some.inj H
                    have hnb36 := NB101_102.out
                    have hnc36 := NB102_101.out
                    have hcz37_0 : wr.cell? ⟨gb101, 0, none⟩ = some (.slice A0_0 l0_0.length c0_0) := (blk_cell BK101.out 0).trans rfl
                    have hcz37_1 : wr.cell? ⟨gb101, 1, none⟩ = some (.slice A0_1 l0_1.length c0_1) := (blk_cell BK101.out 1).trans rfl
                    have hfz37_0 := blk_frozen BK101.out 0
                    have hfz37_1 := blk_frozen BK101.out 1
                    go_wp2
                    repeat (go_quiet (fail); try go_wp2)
                    go_ret
                    exact ⟨by first | rfl | (simp [errW_none, errW_some] <;> rfl) | (simp [*, errW_none, errW_some] <;> rfl), by repeat (first | (with_reducible first | exact HB.out | apply below_alloc | apply pw_below_drewN | apply below_drew1 | refine below_set ?_ GE101.out | refine below_set ?_ GE102.out) | exact HB.out)⟩
end Go.Proofs.YtkgicpnnlkcaeaaDoor.F
end
section
namespace Go.Proofs.YtkgicpnnlkcaeaaDoor.F
open Go.RowKit Go.Proofs.YtkgicpnnlkcaeaaDoorW.PrintWords Go.Proofs.YtkgicpnnlkcaeaaDoorW.PrintLast Go.Proofs.YtkgicpnnlkcaeaaDoorW.PrintMore
set_option linter.unusedVariables false
set_option linter.unusedSimpArgs false
structure Glob (w : World) : Prop where
  k2 : w.cell? ⟨0, 2, none⟩ = some (.bool true)
  k3 : w.cell? ⟨0, 3, none⟩ = some (.bool true)
  k4 : w.cell? ⟨0, 4, none⟩ = some (.bool false)
  k5 : w.cell? ⟨0, 5, none⟩ = some (.bool false)
  k6 : w.cell? ⟨0, 6, none⟩ = some (.bool true)
  k7 : w.cell? ⟨0, 7, none⟩ = some (.bool false)
  tabs : Lib.Utf8Tabs 1 2 w
theorem glob_cell {w0 w : World} {a : Addr} {v : Value} (hb : Below w0.heap.size w0 w) (h : w0.cell? a = some v) : w.cell? a = some v := (hb.cell (World.block_lt_of_cell? w0 _ h)).trans h
theorem Glob.below {w0 w : World} (h : Glob w0) (hb : Below w0.heap.size w0 w) : Glob w :=
  ⟨glob_cell hb h.k2, glob_cell hb h.k3, glob_cell hb h.k4, glob_cell hb h.k5, glob_cell hb h.k6, glob_cell hb h.k7,
    fun c hc => glob_cell hb (h.tabs.1 c hc), fun i hi => ⟨glob_cell hb (h.tabs.2 i hi).1, glob_cell hb (h.tabs.2 i hi).2⟩⟩
theorem Glob.drawn {w0 w : World} (h : Glob w0) (hd : Drawn0 w0 w) : Glob w := by
  obtain ⟨n, rfl⟩ := hd.out
  exact h.below (pw_below_drewN (Below.refl _ _) n)
def span_of.f (a0 a1 : Int) (a2 : ByteArray) : Option (Bool × Bool × Bool) :=
  if a0 = 1 then some (true, true, true) else if a0 = 2 then some (false, false, true) else if a0 = 3 then some (true, false, true) else some (false, false, false)
theorem glob_alloc {w : World} {a : Addr} {v : Value} (o : Obj) (h : w.cell? a = some v) : (w.alloc o).cell? a = some v := glob_cell (below_alloc (Below.refl _ _) o) h
set_option maxHeartbeats 2000000 in
theorem span_of.calls (a0 a1 : Int) (a2 : ByteArray) (r1 r2 r3 : Bool) (w : World) (hG : Glob w) (h : span_of.f a0 a1 a2 = some (r1, r2, r3)) :
    Calls Tryd.prog 58 #[.agg #[.int .i64 a0, .int .i64 a1, .string a2]] w fun e w' => e = .returned (.tuple #[.agg #[.bool r1, .bool r2], .bool r3]) ∧ Below w.heap.size w w' := by
  have HG := Aside0.mk hG
  clear hG
  unfold span_of.f at h
  by_cases c1 : a0 = 1
  · subst c1
    obtain ⟨rfl, rfl, rfl⟩ : true = r1 ∧ true = r2 ∧ true = r3 := by simpa using h
    clear h
    have h2 := glob_alloc (Obj.cells #[.int .i64 1, .int .i64 a1, .string a2] 33) HG.out.k2
    have h3 := glob_alloc (Obj.cells #[.int .i64 1, .int .i64 a1, .string a2] 33) HG.out.k3
    have h4 := glob_alloc (Obj.cells #[.bool false, .bool false] 90) h2
    have h5 := glob_alloc (Obj.cells #[.bool false, .bool false] 90) h3
    go_enter Tryd.func58, Tryd.ntmps58
    go_wp2
    exact bodyPost_ret (v := .tuple #[.agg #[.bool true, .bool true], .bool true]) (by simp [results, Tryd.results58, go_sem]) rfl ⟨rfl, by repeat (first | exact Below.refl _ _ | apply below_alloc)⟩
  · by_cases c2 : a0 = 2
    · subst c2
      obtain ⟨rfl, rfl, rfl⟩ : false = r1 ∧ false = r2 ∧ true = r3 := by simpa using h
      clear h
      have h2 := glob_alloc (Obj.cells #[.int .i64 2, .int .i64 a1, .string a2] 33) HG.out.k4
      have h3 := glob_alloc (Obj.cells #[.int .i64 2, .int .i64 a1, .string a2] 33) HG.out.k5
      have h4 := glob_alloc (Obj.cells #[.bool false, .bool false] 90) h2
      have h5 := glob_alloc (Obj.cells #[.bool false, .bool false] 90) h3
      go_enter Tryd.func58, Tryd.ntmps58
      go_wp2
      exact bodyPost_ret (v := .tuple #[.agg #[.bool false, .bool false], .bool true]) (by simp [results, Tryd.results58, go_sem]) rfl ⟨rfl, by repeat (first | exact Below.refl _ _ | apply below_alloc)⟩
    · by_cases c3 : a0 = 3
      · subst c3
        obtain ⟨rfl, rfl, rfl⟩ : true = r1 ∧ false = r2 ∧ true = r3 := by simpa using h
        clear h
        have h2 := glob_alloc (Obj.cells #[.int .i64 3, .int .i64 a1, .string a2] 33) HG.out.k6
        have h3 := glob_alloc (Obj.cells #[.int .i64 3, .int .i64 a1, .string a2] 33) HG.out.k7
        have h4 := glob_alloc (Obj.cells #[.bool false, .bool false] 90) h2
        have h5 := glob_alloc (Obj.cells #[.bool false, .bool false] 90) h3
        go_enter Tryd.func58, Tryd.ntmps58
        go_wp2
        exact bodyPost_ret (v := .tuple #[.agg #[.bool true, .bool false], .bool true]) (by simp [results, Tryd.results58, go_sem]) rfl ⟨rfl, by repeat (first | exact Below.refl _ _ | apply below_alloc)⟩
      · rw [if_neg c1, if_neg c2, if_neg c3] at h
        obtain ⟨rfl, rfl, rfl⟩ : false = r1 ∧ false = r2 ∧ false = r3 := by simpa using h
        clear h
        by_cases c4 : a0 < 1
        · have d1 : decide (a0 < 1) = true := decide_eq_true c4
          clear c1 c2 c3 c4
          go_enter Tryd.func58, Tryd.ntmps58
          go_wp2
          exact bodyPost_ret (v := .tuple #[.agg #[.bool false, .bool false], .bool false]) (by simp [results, Tryd.results58, go_sem]) rfl ⟨rfl, by repeat (first | exact Below.refl _ _ | apply below_alloc)⟩
        · have d1 : decide (a0 < 1) = false := decide_eq_false c4
          have d2 : decide (3 < a0) = true := decide_eq_true (by omega)
          clear c1 c2 c3 c4
          go_enter Tryd.func58, Tryd.ntmps58
          go_wp2
          exact bodyPost_ret (v := .tuple #[.agg #[.bool false, .bool false], .bool false]) (by simp [results, Tryd.results58, go_sem]) rfl ⟨rfl, by repeat (first | exact Below.refl _ _ | apply below_alloc)⟩
end Go.Proofs.YtkgicpnnlkcaeaaDoor.F
end
section
namespace Go.Proofs.YtkgicpnnlkcaeaaDoor.F
open Go.RowKit Go.Proofs.YtkgicpnnlkcaeaaDoorW.PrintWords Go.Proofs.YtkgicpnnlkcaeaaDoorW.PrintLast Go.Proofs.YtkgicpnnlkcaeaaDoorW.PrintMore
attribute [local go_sem] max2_int min2_int max_two min_two max_three min_three max_four min_four cell_setCell_isSome
set_option linter.unusedVariables false
set_option linter.unusedSimpArgs false
def span_In.f (a0_0 : Int) (a0_1 : Int) (a0_2 : ByteArray) : Option (Int) := (span_of.f a0_0 a0_1 a0_2).bind fun bt102 => (if bt102.1 = true then (some a0_1) else (some 0))
set_option maxHeartbeats 8000000 in
set_option maxRecDepth 100000 in
theorem span_In.calls (a0_0 : Int) (a0_1 : Int) (a0_2 : ByteArray) (r : Int) (w : World) (hG : Glob w) (h : span_In.f a0_0 a0_1 a0_2 = some r) :
    Calls Tryd.prog 44 #[.agg #[.int .i64 a0_0, .int .i64 a0_1, .string a0_2]] w fun e w' => e = .returned (.int .i64 r) ∧ Below w.heap.size w w' := by
  have hu33 := Tryd.underlying33
  have hu90 := Tryd.underlying90
  have HG := Aside0.mk hG
  clear hG
  have HB := Aside0.mk (Below.refl w.heap.size w)
  have H : ((span_of.f a0_0 a0_1 a0_2).bind fun bt102 => (if bt102.1 = true then (some a0_1) else (some 0))) = some r := h
  clear h
  replace H := Option.bind_eq_some_iff.mp H
  obtain ⟨⟨t102, t103, t104⟩, A20, H⟩ := H
  replace H : (if t102 = true then (some a0_1) else (some 0)) = some r := H
  have A2 := Aside0.mk A20
  clear A20
  by_cases c3 : t102 = true
  · subst c3
    have H1 : (some a0_1) = some r := by rw [if_pos rfl] at H; exact H
    clear H
    have H := H1
    clear H1
    obtain rfl := Option.some.inj H
    go_enter Tryd.func44, Tryd.ntmps44
    go_wp2_with (first | ((with_reducible refine gate_dst (N := 1) rfl ?_); refine box_event ?hg (N := 1) ?hd (cs := #[.int .i64 a0_0, .int .i64 a0_1, .string a0_2]) (t := 33) ?hr ?_; (case hd => rfl); (case hg => rfl); (case hr => first | (go_simp; done) | (go_simp; rfl)); intro gb101 hg w4 hbox hb; have n0_ := Aside0.mk (below_step (by repeat (first | (with_reducible first | exact HB.out | apply below_alloc | apply pw_below_drewN | apply below_drew1) | exact HB.out)) hb); have n1_ := Aside0.mk (hbox); have n2_ := Aside0.mk ((by rw [hg]; exact (below_size (by repeat (first | (with_reducible first | exact HB.out | apply below_alloc | apply pw_below_drewN | apply below_drew1) | exact HB.out))) : w.heap.size ≤ gb101)); have n3_ := Aside0.mk ((by rw [hg]; exact (below_size (by repeat (first | (with_reducible first | exact HB.out | apply below_alloc | apply pw_below_drewN | apply below_drew1) | exact HB.out))) : w.heap.size ≤ gb101)); clear HB; have HB := n0_; have BK101 := n1_; have GW101 := n2_; have GE101 := n3_; clear n0_ n1_ n2_ n3_; clear hb hbox hg; have hcz5_0 : w4.cell? ⟨gb101, 0, none⟩ = some (.int .i64 a0_0) := (blk_cell BK101.out 0).trans rfl; have hcz5_1 : w4.cell? ⟨gb101, 1, none⟩ = some (.int .i64 a0_1) := (blk_cell BK101.out 1).trans rfl; have hcz5_2 : w4.cell? ⟨gb101, 2, none⟩ = some (.string a0_2) := (blk_cell BK101.out 2).trans rfl; have hfz5_0 := blk_frozen BK101.out 0; have hfz5_1 := blk_frozen BK101.out 1; have hfz5_2 := blk_frozen BK101.out 2) | ((with_reducible refine gate_callee (f := 58) rfl ?_); refine goesL_ (some 7) rfl rfl Tryd.func58 (by kernel_rfl) rfl #[.agg #[.int .i64 a0_0, .int .i64 a0_1, .string a0_2]] rfl (by (try simp only [List.map_toArray, List.map_cons, List.map_nil]); first | done | rfl | (simp only [List.length_drop, List.length_take]; rfl)) ?_; (with_reducible refine (span_of.calls a0_0 a0_1 a0_2 true t103 t104 _ ?side1 A2.out).mono ?_); (case side1 => first | (with_reducible exact HG.out) | exact Glob.below HG.out (by repeat (first | (with_reducible first | exact HB.out | apply below_alloc | apply pw_below_drewN | apply below_drew1 | refine below_set ?_ GE101.out) | exact HB.out)) | exact Glob.drawn HG.out (by repeat (first | exact Drawn0.refl _ | apply Drawn0.step))); rintro e w6 ⟨rfl, hb⟩; refine ⟨_, rfl, ?_⟩; have n0_ := Aside0.mk (blk_below (g := gb101) (o := .cells #[.int .i64 a0_0, .int .i64 a0_1, .string a0_2] 33 (0, 0)) (by (with_reducible repeat (first | refine blk_drewN ?_ _ | refine blk_drew ?_ | refine blk_alloc ?_ _)); exact BK101.out) hb); have n1_ := Aside0.mk (below_step (by repeat (first | (with_reducible first | exact HB.out | apply below_alloc | apply pw_below_drewN | apply below_drew1 | refine below_set ?_ GE101.out) | exact HB.out)) hb); clear BK101; clear HB; have BK101 := n0_; have HB := n1_; clear n0_ n1_; (try clear hb); (try clear hb2); (try clear hk); (try clear hi)) | ((with_reducible refine gate_dst (N := 3) rfl ?_); refine box_event ?hg (N := 3) ?hd (cs := #[.bool false, .bool false]) (t := 90) ?hr ?_; (case hd => rfl); (case hg => rfl); (case hr => first | (go_simp; done) | (go_simp; rfl)); intro gb105 hg w7 hbox hb; have n0_ := Aside0.mk (blk_below (g := gb101) (o := .cells #[.int .i64 a0_0, .int .i64 a0_1, .string a0_2] 33 (0, 0)) (by (with_reducible repeat (first | refine blk_drewN ?_ _ | refine blk_drew ?_ | refine blk_alloc ?_ _)); exact BK101.out) hb); have n1_ := Aside0.mk (below_step (by repeat (first | (with_reducible first | exact HB.out | apply below_alloc | apply pw_below_drewN | apply below_drew1 | refine below_set ?_ GE101.out) | exact HB.out)) hb); have n2_ := Aside0.mk (hbox); have n3_ := Aside0.mk ((by rw [hg]; exact (below_size (by repeat (first | (with_reducible first | exact HB.out | apply below_alloc | apply pw_below_drewN | apply below_drew1 | refine below_set ?_ GE101.out) | exact HB.out))) : w.heap.size ≤ gb105)); have n4_ := Aside0.mk ((by rw [hg]; exact (below_size (by repeat (first | (with_reducible first | exact HB.out | apply below_alloc | apply pw_below_drewN | apply below_drew1 | refine below_set ?_ GE101.out) | exact HB.out))) : w.heap.size ≤ gb105)); have n5_ := Aside0.mk ((by rw [hg]; exact Nat.ne_of_lt (blk_lt (g := gb101) (o := .cells #[.int .i64 a0_0, .int .i64 a0_1, .string a0_2] 33 (0, 0)) (by (with_reducible repeat (first | refine blk_drewN ?_ _ | refine blk_drew ?_ | refine blk_alloc ?_ _)); exact BK101.out)) : gb101 ≠ gb105)); have n6_ := Aside0.mk ((by rw [hg]; exact Nat.ne_of_gt (blk_lt (g := gb101) (o := .cells #[.int .i64 a0_0, .int .i64 a0_1, .string a0_2] 33 (0, 0)) (by (with_reducible repeat (first | refine blk_drewN ?_ _ | refine blk_drew ?_ | refine blk_alloc ?_ _)); exact BK101.out)) : gb105 ≠ gb101)); clear BK101; clear HB; have BK101 := n0_; have HB := n1_; have BK105 := n2_; have GW105 := n3_; have GE105 := n4_; have NB101_105 := n5_; have NB105_101 := n6_; clear n0_ n1_ n2_ n3_ n4_ n5_ n6_; clear hb hbox hg; have hnb8 := NB105_101.out; have hnc8 := NB101_105.out; have hcz9_0 : w7.cell? ⟨gb105, 0, none⟩ = some (.bool false) := (blk_cell BK105.out 0).trans rfl; have hcz9_1 : w7.cell? ⟨gb105, 1, none⟩ = some (.bool false) := (blk_cell BK105.out 1).trans rfl; have hfz9_0 := blk_frozen BK105.out 0; have hfz9_1 := blk_frozen BK105.out 1; have hcz10_0 : w7.cell? ⟨gb101, 0, none⟩ = some (.int .i64 a0_0) := (blk_cell BK101.out 0).trans rfl; have hcz10_1 : w7.cell? ⟨gb101, 1, none⟩ = some (.int .i64 a0_1) := (blk_cell BK101.out 1).trans rfl; have hcz10_2 : w7.cell? ⟨gb101, 2, none⟩ = some (.string a0_2) := (blk_cell BK101.out 2).trans rfl; have hfz10_0 := blk_frozen BK101.out 0; have hfz10_1 := blk_frozen BK101.out 1; have hfz10_2 := blk_frozen BK101.out 2))
    go_ret
    exact ⟨by first | rfl | (simp [errW_none, errW_some] <;> rfl) | (simp [*, errW_none, errW_some] <;> rfl), by repeat (first | (with_reducible first | exact HB.out | apply below_alloc | apply pw_below_drewN | apply below_drew1 | refine below_set ?_ GE101.out | refine below_set ?_ GE105.out) | exact HB.out)⟩
  · replace c3 := Bool.eq_false_iff.mpr c3
    subst c3
    have H1 : (some 0) = some r := by rw [if_neg (show ¬ (false = true) by decide)] at H; exact H
    clear H
    have H := H1
    clear H1
    obtain rfl := Option.some.inj H
    go_enter Tryd.func44, Tryd.ntmps44
    go_wp2_with (first | ((with_reducible refine gate_dst (N := 1) rfl ?_); refine box_event ?hg (N := 1) ?hd (cs := #[.int .i64 a0_0, .int .i64 a0_1, .string a0_2]) (t := 33) ?hr ?_; (case hd => rfl); (case hg => rfl); (case hr => first | (go_simp; done) | (go_simp; rfl)); intro gb101 hg w11 hbox hb; have n0_ := Aside0.mk (below_step (by repeat (first | (with_reducible first | exact HB.out | apply below_alloc | apply pw_below_drewN | apply below_drew1) | exact HB.out)) hb); have n1_ := Aside0.mk (hbox); have n2_ := Aside0.mk ((by rw [hg]; exact (below_size (by repeat (first | (with_reducible first | exact HB.out | apply below_alloc | apply pw_below_drewN | apply below_drew1) | exact HB.out))) : w.heap.size ≤ gb101)); have n3_ := Aside0.mk ((by rw [hg]; exact (below_size (by repeat (first | (with_reducible first | exact HB.out | apply below_alloc | apply pw_below_drewN | apply below_drew1) | exact HB.out))) : w.heap.size ≤ gb101)); clear HB; have HB := n0_; have BK101 := n1_; have GW101 := n2_; have GE101 := n3_; clear n0_ n1_ n2_ n3_; clear hb hbox hg; have hcz12_0 : w11.cell? ⟨gb101, 0, none⟩ = some (.int .i64 a0_0) := (blk_cell BK101.out 0).trans rfl; have hcz12_1 : w11.cell? ⟨gb101, 1, none⟩ = some (.int .i64 a0_1) := (blk_cell BK101.out 1).trans rfl; have hcz12_2 : w11.cell? ⟨gb101, 2, none⟩ = some (.string a0_2) := (blk_cell BK101.out 2).trans rfl; have hfz12_0 := blk_frozen BK101.out 0; have hfz12_1 := blk_frozen BK101.out 1; have hfz12_2 := blk_frozen BK101.out 2) | ((with_reducible refine gate_callee (f := 58) rfl ?_); refine goesL_ (some 7) rfl rfl Tryd.func58 (by kernel_rfl) rfl #[.agg #[.int .i64 a0_0, .int .i64 a0_1, .string a0_2]] rfl (by (try simp only [List.map_toArray, List.map_cons, List.map_nil]); first | done | rfl | (simp only [List.length_drop, List.length_take]; rfl)) ?_; (with_reducible refine (span_of.calls a0_0 a0_1 a0_2 false t103 t104 _ ?side1 A2.out).mono ?_); (case side1 => first | (with_reducible exact HG.out) | exact Glob.below HG.out (by repeat (first | (with_reducible first | exact HB.out | apply below_alloc | apply pw_below_drewN | apply below_drew1 | refine below_set ?_ GE101.out) | exact HB.out)) | exact Glob.drawn HG.out (by repeat (first | exact Drawn0.refl _ | apply Drawn0.step))); rintro e w13 ⟨rfl, hb⟩; refine ⟨_, rfl, ?_⟩; have n0_ := Aside0.mk (blk_below (g := gb101) (o := .cells #[.int .i64 a0_0, .int .i64 a0_1, .string a0_2] 33 (0, 0)) (by (with_reducible repeat (first | refine blk_drewN ?_ _ | refine blk_drew ?_ | refine blk_alloc ?_ _)); exact BK101.out) hb); have n1_ := Aside0.mk (below_step (by repeat (first | (with_reducible first | exact HB.out | apply below_alloc | apply pw_below_drewN | apply below_drew1 | refine below_set ?_ GE101.out) | exact HB.out)) hb); clear BK101; clear HB; have BK101 := n0_; have HB := n1_; clear n0_ n1_; (try clear hb); (try clear hb2); (try clear hk); (try clear hi)) | ((with_reducible refine gate_dst (N := 3) rfl ?_); refine box_event ?hg (N := 3) ?hd (cs := #[.bool false, .bool false]) (t := 90) ?hr ?_; (case hd => rfl); (case hg => rfl); (case hr => first | (go_simp; done) | (go_simp; rfl)); intro gb105 hg w14 hbox hb; have n0_ := Aside0.mk (blk_below (g := gb101) (o := .cells #[.int .i64 a0_0, .int .i64 a0_1, .string a0_2] 33 (0, 0)) (by (with_reducible repeat (first | refine blk_drewN ?_ _ | refine blk_drew ?_ | refine blk_alloc ?_ _)); exact BK101.out) hb); have n1_ := Aside0.mk (below_step (by repeat (first | (with_reducible first | exact HB.out | apply below_alloc | apply pw_below_drewN | apply below_drew1 | refine below_set ?_ GE101.out) | exact HB.out)) hb); have n2_ := Aside0.mk (hbox); have n3_ := Aside0.mk ((by rw [hg]; exact (below_size (by repeat (first | (with_reducible first | exact HB.out | apply below_alloc | apply pw_below_drewN | apply below_drew1 | refine below_set ?_ GE101.out) | exact HB.out))) : w.heap.size ≤ gb105)); have n4_ := Aside0.mk ((by rw [hg]; exact (below_size (by repeat (first | (with_reducible first | exact HB.out | apply below_alloc | apply pw_below_drewN | apply below_drew1 | refine below_set ?_ GE101.out) | exact HB.out))) : w.heap.size ≤ gb105)); have n5_ := Aside0.mk ((by rw [hg]; exact Nat.ne_of_lt (blk_lt (g := gb101) (o := .cells #[.int .i64 a0_0, .int .i64 a0_1, .string a0_2] 33 (0, 0)) (by (with_reducible repeat (first | refine blk_drewN ?_ _ | refine blk_drew ?_ | refine blk_alloc ?_ _)); exact BK101.out)) : gb101 ≠ gb105)); have n6_ := Aside0.mk ((by rw [hg]; exact Nat.ne_of_gt (blk_lt (g := gb101) (o := .cells #[.int .i64 a0_0, .int .i64 a0_1, .string a0_2] 33 (0, 0)) (by (with_reducible repeat (first | refine blk_drewN ?_ _ | refine blk_drew ?_ | refine blk_alloc ?_ _)); exact BK101.out)) : gb105 ≠ gb101)); clear BK101; clear HB; have BK101 := n0_; have HB := n1_; have BK105 := n2_; have GW105 := n3_; have GE105 := n4_; have NB101_105 := n5_; have NB105_101 := n6_; clear n0_ n1_ n2_ n3_ n4_ n5_ n6_; clear hb hbox hg; have hnb15 := NB105_101.out; have hnc15 := NB101_105.out; have hcz16_0 : w14.cell? ⟨gb105, 0, none⟩ = some (.bool false) := (blk_cell BK105.out 0).trans rfl; have hcz16_1 : w14.cell? ⟨gb105, 1, none⟩ = some (.bool false) := (blk_cell BK105.out 1).trans rfl; have hfz16_0 := blk_frozen BK105.out 0; have hfz16_1 := blk_frozen BK105.out 1))
    go_ret
    exact ⟨by first | rfl | (simp [errW_none, errW_some] <;> rfl) | (simp [*, errW_none, errW_some] <;> rfl), by repeat (first | (with_reducible first | exact HB.out | apply below_alloc | apply pw_below_drewN | apply below_drew1 | refine below_set ?_ GE101.out | refine below_set ?_ GE105.out) | exact HB.out)⟩
end Go.Proofs.YtkgicpnnlkcaeaaDoor.F
end
section
namespace Go.Proofs.YtkgicpnnlkcaeaaDoor.F
open Go.RowKit Go.Proofs.YtkgicpnnlkcaeaaDoorW.PrintWords Go.Proofs.YtkgicpnnlkcaeaaDoorW.PrintLast Go.Proofs.YtkgicpnnlkcaeaaDoorW.PrintMore
set_option linter.unusedVariables false
set_option linter.unusedSimpArgs false
section
variable {P : Program}
variable {ops : Array Oper} {rest : List Oper} {o : Oper} {a : Act} {Q : Exit → Act → World → Prop} {α : Type}
end
section
variable {P : Program} {ops : Array Oper} {rest : List Oper} {o : Oper} {a : Act} {Q : Exit → Act → World → Prop} {W : World}
theorem gate_value {x : Operand} {ags : Array Operand} {ts : Array TypeId} (_ho : o.op = .call { callee := .value x, args := ags, argTypes := ts }) (h : wpList P ops Q (o :: rest) a W) : wpList P ops Q (o :: rest) a W := h
theorem goesV_ {oi : Oper} {w : World} (N : Option Tmp) (hd : oi.dst = N) (hg : oi.guard = none) {f : FuncId} {fn : Func} {x : Operand} {ags : Array Operand} {ts : Array TypeId} (hf : P.funcs[f]? = some fn) (hname : (fn.name == "runtime.NumGoroutine") = false) (hb : fn.body.isSome = true) (args : Array Value)
    (hop : oi.op = .call { callee := .value x, args := ags, argTypes := ts }) (hx : a.eval x = .func (.func f) #[] #[]) (hargs : ags.map a.eval = args)
    (h : Calls P f args w fun e w' => ∃ v, e = .returned v ∧ wpList P ops Q rest (a.put N v) w') : wpList P ops Q (oi :: rest) a w := by
  have he := enters_ hf hname hb args w
  have hrun : (execOp a.eval oi).run P w = .ok (.enter f args) w := by
    unfold execOp
    simp [hop, resolve, Deferred.ofValue, invoke, hx, hargs, he]
  refine wpList_plain hg fun K hK => ?_
  unfold Oper.wp
  rw [hrun, Oper.upon_enter]
  refine h.mono fun e w'' hh => ?_
  obtain ⟨v, rfl, hk⟩ := hh
  subst hd
  exact hK _ _ hk
end
end Go.Proofs.YtkgicpnnlkcaeaaDoor.F
end
section
namespace Go.Proofs.YtkgicpnnlkcaeaaDoor.F
open Go.RowKit Go.Proofs.YtkgicpnnlkcaeaaDoorW.PrintWords Go.Proofs.YtkgicpnnlkcaeaaDoorW.PrintLast Go.Proofs.YtkgicpnnlkcaeaaDoorW.PrintMore
attribute [local go_sem] max2_int min2_int max_two min_two max_three min_three max_four min_four cell_setCell_isSome
set_option linter.unusedVariables false
set_option linter.unusedSimpArgs false
def op_row_sum.l0 : Nat → Int → List (S33) → Int → Int → Option (Int)
  | 0, _, _, _, _ => none
  | k + 1, x5, x8, x9, x10 => if x10 < x9 then (if 0 ≤ x10 then (if x10 < (x8.length : Int) then ((span_In.f ((rd_T33 x8 x10).f0) ((rd_T33 x8 x10).f1) ((rd_T33 x8 x10).f2)).bind fun t103 => (op_row_sum.l0 k (wrap64 (x5 + t103)) x8 x9 (wrap64 (x10 + 1)))) else (none)) else (none)) else (some x5)
def op_row_sum.f (k : Nat) (l0 : List (S33)) : Option (Int) := op_row_sum.l0 k 0 l0 (l0.length : Int) 0
set_option maxHeartbeats 8000000 in
set_option maxRecDepth 100000 in
theorem op_row_sum.calls (k : Nat) (A0 : Option Addr) (c0 : Nat) (l0 : List (S33)) (r : Int) (w : World) (hG : Glob w) (hr0 : Kd.C k33 w A0 l0.length l0) (hc0 : l0.length ≤ c0) (h : op_row_sum.f k l0 = some r) :
    Calls Tryd.prog 43 #[.slice A0 l0.length c0, .func (.func 44) #[] #[]] w fun e w' => e = .returned (.int .i64 r) ∧ Below w.heap.size w w' := by
  have hu33 := Tryd.underlying33
  have HG := Aside0.mk hG
  clear hG
  have HR0 := Aside0.mk hr0
  have HC0 := Aside0.mk hc0
  clear hr0 hc0
  have HB := Aside0.mk (Below.refl w.heap.size w)
  have H : (op_row_sum.l0 k 0 l0 (l0.length : Int) 0) = some r := h
  clear h
  have H' := Aside0.mk H
  clear H
  go_enter Tryd.func43, Tryd.ntmps43
  go_wp2
  go_loopg [5, 10] k (fun kq v5 v10 w' => ∃ (x5_1 : Int) (x10_1 : Int), v5 = .int .i64 x5_1 ∧ v10 = .int .i64 x10_1 ∧ Aside0 (op_row_sum.l0 kq x5_1 l0 (l0.length : Int) x10_1 = some r) ∧ Aside0 (kq ≤ k) ∧ Aside0 (Below w.heap.size w w'))
  case atStart => exact ⟨(0), (0), (by first | rfl | (simp; done) | (simp [*]; done)), (by first | rfl | (simp; done) | (simp [*]; done)), H', ⟨Nat.le_refl _⟩, ⟨by repeat (first | (with_reducible first | exact HB.out | apply below_alloc | apply pw_below_drewN | apply below_drew1) | exact HB.out)⟩⟩
  case round =>
    clear H'
    obtain ⟨x5_1, x10_1, rfl, rfl, HA, HK1, HB⟩ := hrel
    cases gk with
    | zero => exact absurd HA.out (by simp [op_row_sum.l0])
    | succ k1 =>
      have H := HA.out
      clear HA
      simp only [op_row_sum.l0] at H
      by_cases c2 : x10_1 < (l0.length : Int)
      · rw [if_pos c2] at H
        have c2b0 : decide (x10_1 < (l0.length : Int)) = true := decide_eq_true c2
        clear c2
        by_cases c3 : 0 ≤ x10_1
        · rw [if_pos c3] at H
          have c3b0 : decide (0 ≤ x10_1) = true := decide_eq_true c3
          clear c3
          by_cases c4 : x10_1 < (l0.length : Int)
          · rw [if_pos c4] at H
            have c4b0 : decide (x10_1 < (l0.length : Int)) = true := decide_eq_true c4
            clear c4
            replace H := Option.bind_eq_some_iff.mp H
            obtain ⟨t103, A50, H⟩ := H
            replace H : (op_row_sum.l0 k1 (wrap64 (x5_1 + t103)) l0 (l0.length : Int) (wrap64 (x10_1 + 1))) = some r := H
            have A5 := Aside0.mk A50
            clear A50
            have H' := Aside0.mk H
            clear H
            have p101 : 0 ≤ (x10_1 : Int) := of_decide_eq_true (by first | (with_reducible assumption) | assumption)
            have q101 : x10_1 < (l0.length : Int) := of_decide_eq_true (by first | (with_reducible assumption) | assumption)
            obtain ⟨ad101, e101, hx101_0, hx101_1, hx101_2⟩ := at_T33 HR0.out x10_1 p101 q101
            cases e101
            replace hx101_0 := (HB.out.cell (World.block_lt_of_cell? w _ hx101_0)).trans hx101_0
            replace hx101_1 := (HB.out.cell (World.block_lt_of_cell? w _ hx101_1)).trans hx101_1
            replace hx101_2 := (HB.out.cell (World.block_lt_of_cell? w _ hx101_2)).trans hx101_2
            replace p101 := eq_true p101
            replace q101 := eq_true q101
            go_wp2_with (first | ((with_reducible refine gate_dst (N := 7) rfl ?_); refine box_event ?hg (N := 7) ?hd (cs := #[.int .i64 0, .int .i64 0, .string (⟨#[]⟩ : ByteArray)]) (t := 33) ?hr ?_; (case hd => rfl); (case hg => rfl); (case hr => first | (go_simp; done) | (go_simp; rfl)); intro gb102 hg w6 hbox hb; have n0_ := Aside0.mk (below_step (by repeat (first | (with_reducible first | exact HB.out | apply below_alloc | apply pw_below_drewN | apply below_drew1) | exact HB.out)) hb); have n1_ := Aside0.mk (hbox); have n2_ := Aside0.mk ((by rw [hg]; exact (below_size (by repeat (first | (with_reducible first | exact HB.out | apply below_alloc | apply pw_below_drewN | apply below_drew1) | exact HB.out))) : w.heap.size ≤ gb102)); have n3_ := Aside0.mk ((by rw [hg]; exact (below_size (by repeat (first | (with_reducible first | exact HB.out | apply below_alloc | apply pw_below_drewN | apply below_drew1) | exact HB.out))) : w.heap.size ≤ gb102)); clear HB; have HB := n0_; have BK102 := n1_; have GW102 := n2_; have GE102 := n3_; clear n0_ n1_ n2_ n3_; clear hb hbox hg; have hcz7_0 : w6.cell? ⟨gb102, 0, none⟩ = some (.int .i64 0) := (blk_cell BK102.out 0).trans rfl; have hcz7_1 : w6.cell? ⟨gb102, 1, none⟩ = some (.int .i64 0) := (blk_cell BK102.out 1).trans rfl; have hcz7_2 : w6.cell? ⟨gb102, 2, none⟩ = some (.string (⟨#[]⟩ : ByteArray)) := (blk_cell BK102.out 2).trans rfl; have hfz7_0 := blk_frozen BK102.out 0; have hfz7_1 := blk_frozen BK102.out 1; have hfz7_2 := blk_frozen BK102.out 2) | ((with_reducible refine gate_value (x := .tmp 15) rfl ?_); refine goesV_ (some 17) rfl rfl Tryd.func44 (by kernel_rfl) rfl #[.agg #[.int .i64 ((rd_T33 l0 x10_1).f0), .int .i64 ((rd_T33 l0 x10_1).f1), .string ((rd_T33 l0 x10_1).f2)]] rfl rfl (by (try simp only [List.map_toArray, List.map_cons, List.map_nil]); first | done | rfl | (simp only [List.length_drop, List.length_take]; rfl)) ?_; (with_reducible refine (span_In.calls ((rd_T33 l0 x10_1).f0) ((rd_T33 l0 x10_1).f1) ((rd_T33 l0 x10_1).f2) t103 _ ?side1 A5.out).mono ?_); (case side1 => first | (with_reducible exact HG.out) | exact Glob.below HG.out (by repeat (first | (with_reducible first | exact HB.out | apply below_alloc | apply pw_below_drewN | apply below_drew1 | refine below_set ?_ GE102.out) | exact HB.out)) | exact Glob.drawn HG.out (by repeat (first | exact Drawn0.refl _ | apply Drawn0.step))); rintro e w8 ⟨rfl, hb⟩; refine ⟨_, rfl, ?_⟩; have n0_ := Aside0.mk (blk_below (g := gb102) (o := .cells #[.int .i64 ((rd_T33 l0 x10_1).f0), .int .i64 ((rd_T33 l0 x10_1).f1), .string ((rd_T33 l0 x10_1).f2)] 33 (0, 0)) (by (with_reducible repeat (first | refine blk_drewN ?_ _ | refine blk_drew ?_ | refine blk_alloc ?_ _)); refine blk_put (cs := #[.int .i64 ((rd_T33 l0 x10_1).f0), .int .i64 ((rd_T33 l0 x10_1).f1), .string (⟨#[]⟩ : ByteArray)]) ?_ 2 _ rfl; (with_reducible repeat (first | refine blk_drewN ?_ _ | refine blk_drew ?_ | refine blk_alloc ?_ _)); refine blk_put (cs := #[.int .i64 ((rd_T33 l0 x10_1).f0), .int .i64 0, .string (⟨#[]⟩ : ByteArray)]) ?_ 1 _ rfl; (with_reducible repeat (first | refine blk_drewN ?_ _ | refine blk_drew ?_ | refine blk_alloc ?_ _)); refine blk_put (cs := #[.int .i64 0, .int .i64 0, .string (⟨#[]⟩ : ByteArray)]) ?_ 0 _ rfl; (with_reducible repeat (first | refine blk_drewN ?_ _ | refine blk_drew ?_ | refine blk_alloc ?_ _)); exact BK102.out) hb); have n1_ := Aside0.mk (below_step (by repeat (first | (with_reducible first | exact HB.out | apply below_alloc | apply pw_below_drewN | apply below_drew1 | refine below_set ?_ GE102.out) | exact HB.out)) hb); clear BK102; clear HB; have BK102 := n0_; have HB := n1_; clear n0_ n1_; (try clear hb); (try clear hb2); (try clear hk); (try clear hi)))
            go_roundg k1
            case measure => have := HK1.out; omega
            case rel => exact ⟨(wrap64 (x5_1 + t103)), (wrap64 (x10_1 + 1)), (by first | rfl | (simp; done) | (simp [*]; done)), (by first | rfl | (simp; done) | (simp [*]; done)), H', ⟨by have := HK1.out; omega⟩, ⟨by repeat (first | (with_reducible first | exact HB.out | apply below_alloc | apply pw_below_drewN | apply below_drew1 | refine below_set ?_ GE102.out) | exact HB.out)⟩⟩
          · rw [if_neg c4] at H
            exact absurd H (by simp)
        · rw [if_neg c3] at H
          exact absurd H (by simp)
      · rw [if_neg c2] at H
        have c2b0 : decide (x10_1 < (l0.length : Int)) = false := decide_eq_false c2
        clear c2
        obtain rfl := Option.some.inj H
        go_wp2
        go_ret
        exact ⟨by first | rfl | (simp [errW_none, errW_some] <;> rfl) | (simp [*, errW_none, errW_some] <;> rfl), by repeat (first | (with_reducible first | exact HB.out | apply below_alloc | apply pw_below_drewN | apply below_drew1) | exact HB.out)⟩
end Go.Proofs.YtkgicpnnlkcaeaaDoor.F
end
section
namespace Go.Proofs.YtkgicpnnlkcaeaaDoor.F
open Go.RowKit Go.Proofs.YtkgicpnnlkcaeaaDoorW.PrintWords Go.Proofs.YtkgicpnnlkcaeaaDoorW.PrintLast Go.Proofs.YtkgicpnnlkcaeaaDoorW.PrintMore
attribute [local go_sem] max2_int min2_int max_two min_two max_three min_three max_four min_four cell_setCell_isSome
set_option linter.unusedVariables false
set_option linter.unusedSimpArgs false
def op_In.f (k : Nat) (l0 : List (S33)) : Option (Int) := (op_row_sum.f k l0).bind fun t101 => (some t101)
set_option maxHeartbeats 8000000 in
set_option maxRecDepth 100000 in
theorem op_In.calls (k : Nat) (A0 : Option Addr) (c0 : Nat) (l0 : List (S33)) (r : Int) (w : World) (hG : Glob w) (hr0 : Kd.C k33 w A0 l0.length l0) (hc0 : l0.length ≤ c0) (h : op_In.f k l0 = some r) :
    Calls Tryd.prog 20 #[.slice A0 l0.length c0] w fun e w' => e = .returned (.int .i64 r) ∧ Below w.heap.size w w' := by
  have HG := Aside0.mk hG
  clear hG
  have HR0 := Aside0.mk hr0
  have HC0 := Aside0.mk hc0
  clear hr0 hc0
  have HB := Aside0.mk (Below.refl w.heap.size w)
  have H : ((op_row_sum.f k l0).bind fun t101 => (some t101)) = some r := h
  clear h
  replace H := Option.bind_eq_some_iff.mp H
  obtain ⟨t101, A20, H⟩ := H
  replace H : (some t101) = some r := H
  have A2 := Aside0.mk A20
  clear A20
  obtain rfl := Option.some.inj H
  go_enter Tryd.func20, Tryd.ntmps20
  go_wp2_with (first | ((with_reducible refine gate_value (x := .tmp 4) rfl ?_); refine goesV_ (some 6) rfl rfl Tryd.func43 (by kernel_rfl) rfl #[.slice A0 l0.length c0, .func (.func 44) #[] #[]] rfl rfl (by (try simp only [List.map_toArray, List.map_cons, List.map_nil]); first | done | rfl | (simp only [List.length_drop, List.length_take]; rfl)) ?_; (with_reducible refine (op_row_sum.calls k _ _ l0 t101 _ ?side1 ?side2 ?side3 A2.out).mono ?_); (case side1 => first | (with_reducible exact HG.out) | exact Glob.below HG.out (by repeat (first | (with_reducible first | exact HB.out | apply below_alloc | apply pw_below_drewN | apply below_drew1) | exact HB.out)) | exact Glob.drawn HG.out (by repeat (first | exact Drawn0.refl _ | apply Drawn0.step))); (case side2 => repeat (first | exact HR0.out | (with_reducible refine Kd.C_alloc ?_ _) | (with_reducible refine Kd.C_drewN ?_ _) | (with_reducible refine Kd.C_drew ?_))); (case side3 => exact HC0.out); rintro e w3 ⟨rfl, hb⟩; refine ⟨_, rfl, ?_⟩; have n0_ := Aside0.mk (below_step (by repeat (first | (with_reducible first | exact HB.out | apply below_alloc | apply pw_below_drewN | apply below_drew1) | exact HB.out)) hb); clear HB; have HB := n0_; clear n0_; (try clear hb); (try clear hb2); (try clear hk); (try clear hi)))
  go_ret
  exact ⟨by first | rfl | (simp [errW_none, errW_some] <;> rfl) | (simp [*, errW_none, errW_some] <;> rfl), by repeat (first | (with_reducible first | exact HB.out | apply below_alloc | apply pw_below_drewN | apply below_drew1) | exact HB.out)⟩
end Go.Proofs.YtkgicpnnlkcaeaaDoor.F
end
section
namespace Go.Proofs
open Go.Shelf
def Tryd.laysValid_ren : Go.Shelf.Ren := ⟨fun | 196 => 62 | 259 => 65 | n => n, fun | 9 => 9 | 4 => 4 | 3 => 3 | 5 => 5 | 12 => 12 | 119 => 99 | 0 => 0 | 46 => 103 | 139 => 102 | 138 => 101 | 53 => 104 | n => n, fun | 3 => 1 | 4 => 2 | n => n⟩
theorem Tryd.laysValid : Go.Proofs.Lays.n196 Tryd.prog Tryd.laysValid_ren := {
  mixed := by kernel_rfl
  f196 := Tryd.func62.trans (congrArg some (by kernel_rfl))
  f259 := Tryd.func65.trans (congrArg some (by kernel_rfl))
  t0 := Tryd.underlying0
  a0 := Tryd.isAgg0
  z0 := Tryd.sizeOf0
  v0 := Tryd.zeroValue0
  t3 := Tryd.underlying3
  a3 := Tryd.isAgg3
  z3 := Tryd.sizeOf3
  v3 := Tryd.zeroValue3
  t4 := Tryd.underlying4
  a4 := Tryd.isAgg4
  z4 := Tryd.sizeOf4
  v4 := Tryd.zeroValue4
  t5 := Tryd.underlying5
  a5 := Tryd.isAgg5
  z5 := Tryd.sizeOf5
  v5 := Tryd.zeroValue5
  t9 := Tryd.underlying9
  a9 := Tryd.isAgg9
  z9 := Tryd.sizeOf9
  v9 := Tryd.zeroValue9
  t12 := Tryd.underlying12
  a12 := Tryd.isAgg12
  z12 := Tryd.sizeOf12
  v12 := Tryd.zeroValue12
  t46 := Tryd.underlying103
  a46 := Tryd.isAgg103
  z46 := Tryd.sizeOf103
  v46 := Tryd.zeroValue103
  t53 := Tryd.underlying104
  a53 := Tryd.isAgg104
  z53 := Tryd.sizeOf104
  v53 := Tryd.zeroValue104
  t119 := Tryd.underlying99
  a119 := Tryd.isAgg99
  z119 := Tryd.sizeOf99
  t138 := Tryd.underlying101
  a138 := Tryd.isAgg101
  z138 := Tryd.sizeOf101
  v138 := Tryd.zeroValue101
  t139 := Tryd.underlying102
  a139 := Tryd.isAgg102
  z139 := Tryd.sizeOf102
  v139 := Tryd.zeroValue102
  g3 := by kernel_rfl
  g4 := by kernel_rfl }
end Go.Proofs
end
section
namespace Go.Proofs.YtkgicpnnlkcaeaaDoor.F
open Go.RowKit Go.Proofs.YtkgicpnnlkcaeaaDoorW.PrintWords Go.Proofs.YtkgicpnnlkcaeaaDoorW.PrintLast Go.Proofs.YtkgicpnnlkcaeaaDoorW.PrintMore
set_option linter.unusedVariables false
set_option linter.unusedSimpArgs false
def utf8_ValidString.f (a0 : ByteArray) : Option Bool := if a0.size ≤ 9223372036854775807 then some (Lib.validD a0.data.toList) else none
theorem utf8_ValidString.calls (a0 : ByteArray) (r : Bool) (w : World) (hG : Glob w) (h : utf8_ValidString.f a0 = some r) :
    Calls Tryd.prog 62 #[.string a0] w fun e w' => e = .returned (.bool r) ∧ Below w.heap.size w w' := by
  unfold utf8_ValidString.f at h
  split at h
  · next hs =>
    obtain rfl := Option.some.inj h
    exact Any.utf8_ValidString Tryd.laysValid a0 w hs hG.tabs
  · cases h
end Go.Proofs.YtkgicpnnlkcaeaaDoor.F
end
section
namespace Go.Proofs.YtkgicpnnlkcaeaaDoor.F
open Go.RowKit Go.Proofs.YtkgicpnnlkcaeaaDoorW.PrintWords Go.Proofs.YtkgicpnnlkcaeaaDoorW.PrintLast Go.Proofs.YtkgicpnnlkcaeaaDoorW.PrintMore
attribute [local go_sem] max2_int min2_int max_two min_two max_three min_three max_four min_four cell_setCell_isSome
set_option linter.unusedVariables false
set_option linter.unusedSimpArgs false
def points_Valid.f (a0 : ByteArray) : Option (Bool) := (utf8_ValidString.f a0).bind fun t101 => (some t101)
set_option maxHeartbeats 8000000 in
set_option maxRecDepth 100000 in
theorem points_Valid.calls (a0 : ByteArray) (r : Bool) (w : World) (hG : Glob w) (h : points_Valid.f a0 = some r) :
    Calls Tryd.prog 48 #[.string a0] w fun e w' => e = .returned (.bool r) ∧ Below w.heap.size w w' := by
  have HG := Aside0.mk hG
  clear hG
  have HB := Aside0.mk (Below.refl w.heap.size w)
  have H : ((utf8_ValidString.f a0).bind fun t101 => (some t101)) = some r := h
  clear h
  replace H := Option.bind_eq_some_iff.mp H
  obtain ⟨t101, A20, H⟩ := H
  replace H : (some t101) = some r := H
  have A2 := Aside0.mk A20
  clear A20
  obtain rfl := Option.some.inj H
  go_enter Tryd.func48, Tryd.ntmps48
  go_wp2_with (first | ((with_reducible refine gate_callee (f := 62) rfl ?_); refine goesL_ (some 4) rfl rfl Tryd.func62 (by kernel_rfl) rfl #[.string a0] rfl (by (try simp only [List.map_toArray, List.map_cons, List.map_nil]); first | done | rfl | (simp only [List.length_drop, List.length_take]; rfl)) ?_; (with_reducible refine (utf8_ValidString.calls a0 t101 _ ?side1 A2.out).mono ?_); (case side1 => first | (with_reducible exact HG.out) | exact Glob.below HG.out (by repeat (first | (with_reducible first | exact HB.out | apply below_alloc | apply pw_below_drewN | apply below_drew1) | exact HB.out)) | exact Glob.drawn HG.out (by repeat (first | exact Drawn0.refl _ | apply Drawn0.step))); rintro e w3 ⟨rfl, hb⟩; refine ⟨_, rfl, ?_⟩; have n0_ := Aside0.mk (below_step (by repeat (first | (with_reducible first | exact HB.out | apply below_alloc | apply pw_below_drewN | apply below_drew1) | exact HB.out)) hb); clear HB; have HB := n0_; clear n0_; (try clear hb); (try clear hb2); (try clear hk); (try clear hi)))
  go_ret
  exact ⟨by first | rfl | (simp [errW_none, errW_some] <;> rfl) | (simp [*, errW_none, errW_some] <;> rfl), by repeat (first | (with_reducible first | exact HB.out | apply below_alloc | apply pw_below_drewN | apply below_drew1) | exact HB.out)⟩
end Go.Proofs.YtkgicpnnlkcaeaaDoor.F
end
section
namespace Go.Proofs.YtkgicpnnlkcaeaaDoor.F
open Go.RowKit Go.Proofs.YtkgicpnnlkcaeaaDoorW.PrintWords Go.Proofs.YtkgicpnnlkcaeaaDoorW.PrintLast Go.Proofs.YtkgicpnnlkcaeaaDoorW.PrintMore
attribute [local go_sem] max2_int min2_int max_two min_two max_three min_three max_four min_four cell_setCell_isSome
set_option linter.unusedVariables false
set_option linter.unusedSimpArgs false
mutual
def span_May.j0 : Nat → Bool → Int → Int → ByteArray → Bool → Bool → Option (Int)
  | 0, _, _, _, _, _, _ => none
  | k + 1, x13, x102000, x102001, x102002, x106000, x106001 => if x13 = true then (span_May.j1 k x13 x102000 x102001 x102002 x106000 x106001) else (if x106000 = true then (span_May.j1 k false x102000 x102001 x102002 x106000 x106001) else (span_May.j1 k (x102001 != 0) x102000 x102001 x102002 x106000 x106001))
def span_May.j1 : Nat → Bool → Int → Int → ByteArray → Bool → Bool → Option (Int)
  | 0, _, _, _, _, _, _ => none
  | k + 1, x13, x102000, x102001, x102002, x106000, x106001 => if x13 = true then (some 2) else (if x106000 = true then (span_May.j2 k (x102002.toList != ([] : List UInt8)) x102000 x102001 x102002) else (span_May.j2 k false x102000 x102001 x102002))
def span_May.j2 : Nat → Bool → Int → Int → ByteArray → Option (Int)
  | 0, _, _, _, _ => none
  | k + 1, x34, x102000, x102001, x102002 => if x34 = true then (some 3) else ((points_Valid.f x102002).bind fun t106 => (if t106 = true then (some 0) else (some 3)))
end
def span_May.f (k : Nat) (a0_0 : Int) (a0_1 : Int) (a0_2 : ByteArray) : Option (Int) := (span_of.f a0_0 a0_1 a0_2).bind fun bt102 => (if bt102.2.2 = true then (if bt102.1 = true then (if a0_1 < 0 then (span_May.j0 k true a0_0 a0_1 a0_2 bt102.1 bt102.2.1) else (span_May.j0 k (decide (a0_1 > 1048576)) a0_0 a0_1 a0_2 bt102.1 bt102.2.1)) else (span_May.j0 k false a0_0 a0_1 a0_2 bt102.1 bt102.2.1)) else (some 1))
set_option maxHeartbeats 8000000 in
set_option maxRecDepth 100000 in
theorem span_May.calls (k : Nat) (a0_0 : Int) (a0_1 : Int) (a0_2 : ByteArray) (r : Int) (w : World) (hG : Glob w) (h : span_May.f k a0_0 a0_1 a0_2 = some r) :
    Calls Tryd.prog 57 #[.agg #[.int .i64 a0_0, .int .i64 a0_1, .string a0_2]] w fun e w' => e = .returned (.int .i64 r) ∧ Below w.heap.size w w' := by
  have hu33 := Tryd.underlying33
  have hu90 := Tryd.underlying90
  have HG := Aside0.mk hG
  clear hG
  have HB := Aside0.mk (Below.refl w.heap.size w)
  have H : ((span_of.f a0_0 a0_1 a0_2).bind fun bt102 => (if bt102.2.2 = true then (if bt102.1 = true then (if a0_1 < 0 then (span_May.j0 k true a0_0 a0_1 a0_2 bt102.1 bt102.2.1) else (span_May.j0 k (decide (a0_1 > 1048576)) a0_0 a0_1 a0_2 bt102.1 bt102.2.1)) else (span_May.j0 k false a0_0 a0_1 a0_2 bt102.1 bt102.2.1)) else (some 1))) = some r := h
  clear h
  replace H := Option.bind_eq_some_iff.mp H
  obtain ⟨⟨t102, t103, t104⟩, A20, H⟩ := H
  replace H : (if t104 = true then (if t102 = true then (if a0_1 < 0 then (span_May.j0 k true a0_0 a0_1 a0_2 t102 t103) else (span_May.j0 k (decide (a0_1 > 1048576)) a0_0 a0_1 a0_2 t102 t103)) else (span_May.j0 k false a0_0 a0_1 a0_2 t102 t103)) else (some 1)) = some r := H
  have A2 := Aside0.mk A20
  clear A20
  by_cases c3 : t104 = true
  · subst c3
    have H1 : (if t102 = true then (if a0_1 < 0 then (span_May.j0 k true a0_0 a0_1 a0_2 t102 t103) else (span_May.j0 k (decide (a0_1 > 1048576)) a0_0 a0_1 a0_2 t102 t103)) else (span_May.j0 k false a0_0 a0_1 a0_2 t102 t103)) = some r := by rw [if_pos rfl] at H; exact H
    clear H
    have H := H1
    clear H1
    have HC4 := Aside0.mk H
    clear H
    go_enter Tryd.func57, Tryd.ntmps57
    go_upto_region 4 with (first | ((with_reducible refine gate_dst (N := 1) rfl ?_); refine box_event ?hg (N := 1) ?hd (cs := #[.int .i64 a0_0, .int .i64 a0_1, .string a0_2]) (t := 33) ?hr ?_; (case hd => rfl); (case hg => rfl); (case hr => first | (go_simp; done) | (go_simp; rfl)); intro gb101 hg w5 hbox hb; have n0_ := Aside0.mk (below_step (by repeat (first | (with_reducible first | exact HB.out | apply below_alloc | apply pw_below_drewN | apply below_drew1) | exact HB.out)) hb); have n1_ := Aside0.mk (hbox); have n2_ := Aside0.mk ((by rw [hg]; exact (below_size (by repeat (first | (with_reducible first | exact HB.out | apply below_alloc | apply pw_below_drewN | apply below_drew1) | exact HB.out))) : w.heap.size ≤ gb101)); have n3_ := Aside0.mk ((by rw [hg]; exact (below_size (by repeat (first | (with_reducible first | exact HB.out | apply below_alloc | apply pw_below_drewN | apply below_drew1) | exact HB.out))) : w.heap.size ≤ gb101)); clear HB; have HB := n0_; have BK101 := n1_; have GW101 := n2_; have GE101 := n3_; clear n0_ n1_ n2_ n3_; clear hb hbox hg; have hcz6_0 : w5.cell? ⟨gb101, 0, none⟩ = some (.int .i64 a0_0) := (blk_cell BK101.out 0).trans rfl; have hcz6_1 : w5.cell? ⟨gb101, 1, none⟩ = some (.int .i64 a0_1) := (blk_cell BK101.out 1).trans rfl; have hcz6_2 : w5.cell? ⟨gb101, 2, none⟩ = some (.string a0_2) := (blk_cell BK101.out 2).trans rfl; have hfz6_0 := blk_frozen BK101.out 0; have hfz6_1 := blk_frozen BK101.out 1; have hfz6_2 := blk_frozen BK101.out 2) | ((with_reducible refine gate_callee (f := 58) rfl ?_); refine goesL_ (some 7) rfl rfl Tryd.func58 (by kernel_rfl) rfl #[.agg #[.int .i64 a0_0, .int .i64 a0_1, .string a0_2]] rfl (by (try simp only [List.map_toArray, List.map_cons, List.map_nil]); first | done | rfl | (simp only [List.length_drop, List.length_take]; rfl)) ?_; (with_reducible refine (span_of.calls a0_0 a0_1 a0_2 t102 t103 true _ ?side1 A2.out).mono ?_); (case side1 => first | (with_reducible exact HG.out) | exact Glob.below HG.out (by repeat (first | (with_reducible first | exact HB.out | apply below_alloc | apply pw_below_drewN | apply below_drew1 | refine below_set ?_ GE101.out) | exact HB.out)) | exact Glob.drawn HG.out (by repeat (first | exact Drawn0.refl _ | apply Drawn0.step))); rintro e w7 ⟨rfl, hb⟩; refine ⟨_, rfl, ?_⟩; have n0_ := Aside0.mk (blk_below (g := gb101) (o := .cells #[.int .i64 a0_0, .int .i64 a0_1, .string a0_2] 33 (0, 0)) (by (with_reducible repeat (first | refine blk_drewN ?_ _ | refine blk_drew ?_ | refine blk_alloc ?_ _)); exact BK101.out) hb); have n1_ := Aside0.mk (below_step (by repeat (first | (with_reducible first | exact HB.out | apply below_alloc | apply pw_below_drewN | apply below_drew1 | refine below_set ?_ GE101.out) | exact HB.out)) hb); clear BK101; clear HB; have BK101 := n0_; have HB := n1_; clear n0_ n1_; (try clear hb); (try clear hb2); (try clear hk); (try clear hi)) | ((with_reducible refine gate_dst (N := 3) rfl ?_); refine box_event ?hg (N := 3) ?hd (cs := #[.bool false, .bool false]) (t := 90) ?hr ?_; (case hd => rfl); (case hg => rfl); (case hr => first | (go_simp; done) | (go_simp; rfl)); intro gb105 hg w8 hbox hb; have n0_ := Aside0.mk (blk_below (g := gb101) (o := .cells #[.int .i64 a0_0, .int .i64 a0_1, .string a0_2] 33 (0, 0)) (by (with_reducible repeat (first | refine blk_drewN ?_ _ | refine blk_drew ?_ | refine blk_alloc ?_ _)); exact BK101.out) hb); have n1_ := Aside0.mk (below_step (by repeat (first | (with_reducible first | exact HB.out | apply below_alloc | apply pw_below_drewN | apply below_drew1 | refine below_set ?_ GE101.out) | exact HB.out)) hb); have n2_ := Aside0.mk (hbox); have n3_ := Aside0.mk ((by rw [hg]; exact (below_size (by repeat (first | (with_reducible first | exact HB.out | apply below_alloc | apply pw_below_drewN | apply below_drew1 | refine below_set ?_ GE101.out) | exact HB.out))) : w.heap.size ≤ gb105)); have n4_ := Aside0.mk ((by rw [hg]; exact (below_size (by repeat (first | (with_reducible first | exact HB.out | apply below_alloc | apply pw_below_drewN | apply below_drew1 | refine below_set ?_ GE101.out) | exact HB.out))) : w.heap.size ≤ gb105)); have n5_ := Aside0.mk ((by rw [hg]; exact Nat.ne_of_lt (blk_lt (g := gb101) (o := .cells #[.int .i64 a0_0, .int .i64 a0_1, .string a0_2] 33 (0, 0)) (by (with_reducible repeat (first | refine blk_drewN ?_ _ | refine blk_drew ?_ | refine blk_alloc ?_ _)); exact BK101.out)) : gb101 ≠ gb105)); have n6_ := Aside0.mk ((by rw [hg]; exact Nat.ne_of_gt (blk_lt (g := gb101) (o := .cells #[.int .i64 a0_0, .int .i64 a0_1, .string a0_2] 33 (0, 0)) (by (with_reducible repeat (first | refine blk_drewN ?_ _ | refine blk_drew ?_ | refine blk_alloc ?_ _)); exact BK101.out)) : gb105 ≠ gb101)); clear BK101; clear HB; have BK101 := n0_; have HB := n1_; have BK105 := n2_; have GW105 := n3_; have GE105 := n4_; have NB101_105 := n5_; have NB105_101 := n6_; clear n0_ n1_ n2_ n3_ n4_ n5_ n6_; clear hb hbox hg; have hnb9 := NB105_101.out; have hnc9 := NB101_105.out; have hcz10_0 : w8.cell? ⟨gb105, 0, none⟩ = some (.bool false) := (blk_cell BK105.out 0).trans rfl; have hcz10_1 : w8.cell? ⟨gb105, 1, none⟩ = some (.bool false) := (blk_cell BK105.out 1).trans rfl; have hfz10_0 := blk_frozen BK105.out 0; have hfz10_1 := blk_frozen BK105.out 1))
    (try simp only [Act.put, List.setIfInBounds_toArray, List.set_cons_zero, List.set_cons_succ])
    go_cut [13] (fun v13 wc => ∃ (kq : Nat) (x13_3 : Bool), v13 = .bool x13_3 ∧ Aside0 (span_May.j0 kq x13_3 a0_0 a0_1 a0_2 t102 t103 = some r) ∧ Aside0 (kq ≤ k) ∧ Aside0 (wc.heap[gb101]? = some (.cells #[.int .i64 a0_0, .int .i64 a0_1, .string a0_2] 33 (0, 0))) ∧ Aside0 (wc.heap[gb105]? = some (.cells #[.bool t102, .bool t103] 90 (0, 0))) ∧ Aside0 (Below w.heap.size w wc))
    case first =>
      have H := HC4.out
      clear HC4
      by_cases c11 : t102 = true
      · subst c11
        have H1 : (if a0_1 < 0 then (span_May.j0 k true a0_0 a0_1 a0_2 true t103) else (span_May.j0 k (decide (a0_1 > 1048576)) a0_0 a0_1 a0_2 true t103)) = some r := by rw [if_pos rfl] at H; exact H
        clear H
        have H := H1
        clear H1
        by_cases c12 : a0_1 < 0
        · rw [if_pos c12] at H
          have c12b0 : decide (a0_1 < 0) = true := decide_eq_true c12
          clear c12
          (first | rw [c12b0] | (simp only [i64_w, i32_w]; rw [c12b0]) | skip)
          have H' := Aside0.mk H
          clear H
          have hnb13 := NB105_101.out
          have hnc13 := NB101_105.out
          have hcz14_0 : w8.cell? ⟨gb105, 0, none⟩ = some (.bool false) := (blk_cell BK105.out 0).trans rfl
          have hcz14_1 : w8.cell? ⟨gb105, 1, none⟩ = some (.bool false) := (blk_cell BK105.out 1).trans rfl
          have hfz14_0 := blk_frozen BK105.out 0
          have hfz14_1 := blk_frozen BK105.out 1
          have hcz15_0 : w8.cell? ⟨gb101, 0, none⟩ = some (.int .i64 a0_0) := (blk_cell BK101.out 0).trans rfl
          have hcz15_1 : w8.cell? ⟨gb101, 1, none⟩ = some (.int .i64 a0_1) := (blk_cell BK101.out 1).trans rfl
          have hcz15_2 : w8.cell? ⟨gb101, 2, none⟩ = some (.string a0_2) := (blk_cell BK101.out 2).trans rfl
          have hfz15_0 := blk_frozen BK101.out 0
          have hfz15_1 := blk_frozen BK101.out 1
          have hfz15_2 := blk_frozen BK101.out 2
          go_wp2
          go_meet
          case rel => exact ⟨_, (true), (by first | rfl | (simp; done) | (simp [*]; done) | (simp [isEmpty_bne]; done)), H', ⟨by first | omega | exact Nat.le_refl _⟩, ⟨by (with_reducible repeat (first | refine blk_drewN ?_ _ | refine blk_drew ?_ | refine blk_alloc ?_ _)); refine blk_far ?_ NB101_105.out _; (with_reducible repeat (first | refine blk_drewN ?_ _ | refine blk_drew ?_ | refine blk_alloc ?_ _)); refine blk_far ?_ NB101_105.out _; (with_reducible repeat (first | refine blk_drewN ?_ _ | refine blk_drew ?_ | refine blk_alloc ?_ _)); exact BK101.out⟩, ⟨by (with_reducible repeat (first | refine blk_drewN ?_ _ | refine blk_drew ?_ | refine blk_alloc ?_ _)); refine blk_put (cs := #[.bool true, .bool false]) ?_ 1 _ rfl; (with_reducible repeat (first | refine blk_drewN ?_ _ | refine blk_drew ?_ | refine blk_alloc ?_ _)); refine blk_put (cs := #[.bool false, .bool false]) ?_ 0 _ rfl; (with_reducible repeat (first | refine blk_drewN ?_ _ | refine blk_drew ?_ | refine blk_alloc ?_ _)); exact BK105.out⟩, ⟨by repeat (first | (with_reducible first | exact HB.out | apply below_alloc | apply pw_below_drewN | apply below_drew1 | refine below_set ?_ GE101.out | refine below_set ?_ GE105.out) | exact HB.out)⟩⟩
        · rw [if_neg c12] at H
          have c12b0 : decide (a0_1 < 0) = false := decide_eq_false c12
          clear c12
          (first | rw [c12b0] | (simp only [i64_w, i32_w]; rw [c12b0]) | skip)
          have H' := Aside0.mk H
          clear H
          have hnb16 := NB105_101.out
          have hnc16 := NB101_105.out
          have hcz17_0 : w8.cell? ⟨gb105, 0, none⟩ = some (.bool false) := (blk_cell BK105.out 0).trans rfl
          have hcz17_1 : w8.cell? ⟨gb105, 1, none⟩ = some (.bool false) := (blk_cell BK105.out 1).trans rfl
          have hfz17_0 := blk_frozen BK105.out 0
          have hfz17_1 := blk_frozen BK105.out 1
          have hcz18_0 : w8.cell? ⟨gb101, 0, none⟩ = some (.int .i64 a0_0) := (blk_cell BK101.out 0).trans rfl
          have hcz18_1 : w8.cell? ⟨gb101, 1, none⟩ = some (.int .i64 a0_1) := (blk_cell BK101.out 1).trans rfl
          have hcz18_2 : w8.cell? ⟨gb101, 2, none⟩ = some (.string a0_2) := (blk_cell BK101.out 2).trans rfl
          have hfz18_0 := blk_frozen BK101.out 0
          have hfz18_1 := blk_frozen BK101.out 1
          have hfz18_2 := blk_frozen BK101.out 2
          go_wp2
          go_meet
          case rel => exact ⟨_, (decide (a0_1 > 1048576)), (by first | rfl | (simp; done) | (simp [*]; done) | (simp [isEmpty_bne]; done)), H', ⟨by first | omega | exact Nat.le_refl _⟩, ⟨by (with_reducible repeat (first | refine blk_drewN ?_ _ | refine blk_drew ?_ | refine blk_alloc ?_ _)); refine blk_far ?_ NB101_105.out _; (with_reducible repeat (first | refine blk_drewN ?_ _ | refine blk_drew ?_ | refine blk_alloc ?_ _)); refine blk_far ?_ NB101_105.out _; (with_reducible repeat (first | refine blk_drewN ?_ _ | refine blk_drew ?_ | refine blk_alloc ?_ _)); exact BK101.out⟩, ⟨by (with_reducible repeat (first | refine blk_drewN ?_ _ | refine blk_drew ?_ | refine blk_alloc ?_ _)); refine blk_put (cs := #[.bool true, .bool false]) ?_ 1 _ rfl; (with_reducible repeat (first | refine blk_drewN ?_ _ | refine blk_drew ?_ | refine blk_alloc ?_ _)); refine blk_put (cs := #[.bool false, .bool false]) ?_ 0 _ rfl; (with_reducible repeat (first | refine blk_drewN ?_ _ | refine blk_drew ?_ | refine blk_alloc ?_ _)); exact BK105.out⟩, ⟨by repeat (first | (with_reducible first | exact HB.out | apply below_alloc | apply pw_below_drewN | apply below_drew1 | refine below_set ?_ GE101.out | refine below_set ?_ GE105.out) | exact HB.out)⟩⟩
      · replace c11 := Bool.eq_false_iff.mpr c11
        subst c11
        have H1 : (span_May.j0 k false a0_0 a0_1 a0_2 false t103) = some r := by rw [if_neg (show ¬ (false = true) by decide)] at H; exact H
        clear H
        have H := H1
        clear H1
        have H' := Aside0.mk H
        clear H
        have hnb19 := NB105_101.out
        have hnc19 := NB101_105.out
        have hcz20_0 : w8.cell? ⟨gb105, 0, none⟩ = some (.bool false) := (blk_cell BK105.out 0).trans rfl
        have hcz20_1 : w8.cell? ⟨gb105, 1, none⟩ = some (.bool false) := (blk_cell BK105.out 1).trans rfl
        have hfz20_0 := blk_frozen BK105.out 0
        have hfz20_1 := blk_frozen BK105.out 1
        go_wp2
        go_meet
        case rel => exact ⟨_, (false), (by first | rfl | (simp; done) | (simp [*]; done) | (simp [isEmpty_bne]; done)), H', ⟨by first | omega | exact Nat.le_refl _⟩, ⟨by (with_reducible repeat (first | refine blk_drewN ?_ _ | refine blk_drew ?_ | refine blk_alloc ?_ _)); refine blk_far ?_ NB101_105.out _; (with_reducible repeat (first | refine blk_drewN ?_ _ | refine blk_drew ?_ | refine blk_alloc ?_ _)); refine blk_far ?_ NB101_105.out _; (with_reducible repeat (first | refine blk_drewN ?_ _ | refine blk_drew ?_ | refine blk_alloc ?_ _)); exact BK101.out⟩, ⟨by (with_reducible repeat (first | refine blk_drewN ?_ _ | refine blk_drew ?_ | refine blk_alloc ?_ _)); refine blk_put (cs := #[.bool false, .bool false]) ?_ 1 _ rfl; (with_reducible repeat (first | refine blk_drewN ?_ _ | refine blk_drew ?_ | refine blk_alloc ?_ _)); refine blk_put (cs := #[.bool false, .bool false]) ?_ 0 _ rfl; (with_reducible repeat (first | refine blk_drewN ?_ _ | refine blk_drew ?_ | refine blk_alloc ?_ _)); exact BK105.out⟩, ⟨by repeat (first | (with_reducible first | exact HB.out | apply below_alloc | apply pw_below_drewN | apply below_drew1 | refine below_set ?_ GE101.out | refine below_set ?_ GE105.out) | exact HB.out)⟩⟩
    case rest =>
      clear HC4
      try clear c1
      try clear p2
      try clear c3
      try clear c5
      try clear c9
      try clear c11
      try clear c12
      try clear c12b0
      try clear c13
      try clear c16
      try clear c19
      try clear hcz10_0
      try clear hcz10_1
      try clear hcz14_0
      try clear hcz14_1
      try clear hcz15_0
      try clear hcz15_1
      try clear hcz15_2
      try clear hcz17_0
      try clear hcz17_1
      try clear hcz18_0
      try clear hcz18_1
      try clear hcz18_2
      try clear hcz20_0
      try clear hcz20_1
      try clear hcz6_0
      try clear hcz6_1
      try clear hcz6_2
      try clear hfz10_0
      try clear hfz10_1
      try clear hfz14_0
      try clear hfz14_1
      try clear hfz15_0
      try clear hfz15_1
      try clear hfz15_2
      try clear hfz17_0
      try clear hfz17_1
      try clear hfz18_0
      try clear hfz18_1
      try clear hfz18_2
      try clear hfz20_0
      try clear hfz20_1
      try clear hfz6_0
      try clear hfz6_1
      try clear hfz6_2
      obtain ⟨kq, x13_3, rfl, HA, HJ3, BK101, BK105, HB⟩ := hcut
      cases kq with
      | zero => exact absurd HA.out (by simp [span_May.j0])
      | succ kj3 =>
        have H := HA.out
        clear HA
        simp only [span_May.j0] at H
        have HC21 := Aside0.mk H
        clear H
        go_upto_if 13 with (fail)
        go_cut [13] (fun v13 wc => ∃ (kq : Nat) (x13_20 : Bool), v13 = .bool x13_20 ∧ Aside0 (span_May.j1 kq x13_20 a0_0 a0_1 a0_2 t102 t103 = some r) ∧ Aside0 (kq ≤ kj3) ∧ Aside0 (wc.heap[gb101]? = some (.cells #[.int .i64 a0_0, .int .i64 a0_1, .string a0_2] 33 (0, 0))) ∧ Aside0 (wc.heap[gb105]? = some (.cells #[.bool t102, .bool t103] 90 (0, 0))) ∧ Aside0 (Below w.heap.size w wc))
        case first =>
          have H := HC21.out
          clear HC21
          by_cases c22 : x13_3 = true
          · subst c22
            have H1 : (span_May.j1 kj3 true a0_0 a0_1 a0_2 t102 t103) = some r := by rw [if_pos rfl] at H; exact H
            clear H
            have H := H1
            clear H1
            have H' := Aside0.mk H
            clear H
            go_wp2
            go_meet
            case rel => exact ⟨_, (true), (by first | rfl | (simp; done) | (simp [*]; done) | (simp [isEmpty_bne]; done)), H', ⟨by have := HJ3.out; first | omega | exact Nat.le_refl _⟩, ⟨by (with_reducible repeat (first | refine blk_drewN ?_ _ | refine blk_drew ?_ | refine blk_alloc ?_ _)); exact BK101.out⟩, ⟨by (with_reducible repeat (first | refine blk_drewN ?_ _ | refine blk_drew ?_ | refine blk_alloc ?_ _)); exact BK105.out⟩, ⟨by repeat (first | (with_reducible first | exact HB.out | apply below_alloc | apply pw_below_drewN | apply below_drew1 | refine below_set ?_ GE101.out | refine below_set ?_ GE105.out) | exact HB.out)⟩⟩
          · replace c22 := Bool.eq_false_iff.mpr c22
            subst c22
            have H1 : (if t102 = true then (span_May.j1 kj3 false a0_0 a0_1 a0_2 t102 t103) else (span_May.j1 kj3 (a0_1 != 0) a0_0 a0_1 a0_2 t102 t103)) = some r := by rw [if_neg (show ¬ (false = true) by decide)] at H; exact H
            clear H
            have H := H1
            clear H1
            by_cases c23 : t102 = true
            · subst c23
              have H1 : (span_May.j1 kj3 false a0_0 a0_1 a0_2 true t103) = some r := by rw [if_pos rfl] at H; exact H
              clear H
              have H := H1
              clear H1
              have H' := Aside0.mk H
              clear H
              have hnb24 := NB105_101.out
              have hnc24 := NB101_105.out
              have hcz25_0 : wc.cell? ⟨gb105, 0, none⟩ = some (.bool true) := (blk_cell BK105.out 0).trans rfl
              have hcz25_1 : wc.cell? ⟨gb105, 1, none⟩ = some (.bool t103) := (blk_cell BK105.out 1).trans rfl
              have hfz25_0 := blk_frozen BK105.out 0
              have hfz25_1 := blk_frozen BK105.out 1
              go_wp2
              go_meet
              case rel => exact ⟨_, (false), (by first | rfl | (simp; done) | (simp [*]; done) | (simp [isEmpty_bne]; done)), H', ⟨by have := HJ3.out; first | omega | exact Nat.le_refl _⟩, ⟨by (with_reducible repeat (first | refine blk_drewN ?_ _ | refine blk_drew ?_ | refine blk_alloc ?_ _)); exact BK101.out⟩, ⟨by (with_reducible repeat (first | refine blk_drewN ?_ _ | refine blk_drew ?_ | refine blk_alloc ?_ _)); exact BK105.out⟩, ⟨by repeat (first | (with_reducible first | exact HB.out | apply below_alloc | apply pw_below_drewN | apply below_drew1 | refine below_set ?_ GE101.out | refine below_set ?_ GE105.out) | exact HB.out)⟩⟩
            · replace c23 := Bool.eq_false_iff.mpr c23
              subst c23
              have H1 : (span_May.j1 kj3 (a0_1 != 0) a0_0 a0_1 a0_2 false t103) = some r := by rw [if_neg (show ¬ (false = true) by decide)] at H; exact H
              clear H
              have H := H1
              clear H1
              have H' := Aside0.mk H
              clear H
              have hnb26 := NB105_101.out
              have hnc26 := NB101_105.out
              have hcz27_0 : wc.cell? ⟨gb105, 0, none⟩ = some (.bool false) := (blk_cell BK105.out 0).trans rfl
              have hcz27_1 : wc.cell? ⟨gb105, 1, none⟩ = some (.bool t103) := (blk_cell BK105.out 1).trans rfl
              have hfz27_0 := blk_frozen BK105.out 0
              have hfz27_1 := blk_frozen BK105.out 1
              have hcz28_0 : wc.cell? ⟨gb101, 0, none⟩ = some (.int .i64 a0_0) := (blk_cell BK101.out 0).trans rfl
              have hcz28_1 : wc.cell? ⟨gb101, 1, none⟩ = some (.int .i64 a0_1) := (blk_cell BK101.out 1).trans rfl
              have hcz28_2 : wc.cell? ⟨gb101, 2, none⟩ = some (.string a0_2) := (blk_cell BK101.out 2).trans rfl
              have hfz28_0 := blk_frozen BK101.out 0
              have hfz28_1 := blk_frozen BK101.out 1
              have hfz28_2 := blk_frozen BK101.out 2
              go_wp2
              go_meet
              case rel => exact ⟨_, ((a0_1 != 0)), (by first | rfl | (simp; done) | (simp [*]; done) | (simp [isEmpty_bne]; done)), H', ⟨by have := HJ3.out; first | omega | exact Nat.le_refl _⟩, ⟨by (with_reducible repeat (first | refine blk_drewN ?_ _ | refine blk_drew ?_ | refine blk_alloc ?_ _)); exact BK101.out⟩, ⟨by (with_reducible repeat (first | refine blk_drewN ?_ _ | refine blk_drew ?_ | refine blk_alloc ?_ _)); exact BK105.out⟩, ⟨by repeat (first | (with_reducible first | exact HB.out | apply below_alloc | apply pw_below_drewN | apply below_drew1 | refine below_set ?_ GE101.out | refine below_set ?_ GE105.out) | exact HB.out)⟩⟩
        case rest =>
          clear HC21
          try clear c1
          try clear c2
          try clear p2
          try clear c3
          try clear c5
          try clear c9
          try clear c11
          try clear c12
          try clear c12b0
          try clear c13
          try clear c16
          try clear c19
          try clear c22
          try clear c23
          try clear c24
          try clear c26
          try clear hcz10_0
          try clear hcz10_1
          try clear hcz14_0
          try clear hcz14_1
          try clear hcz15_0
          try clear hcz15_1
          try clear hcz15_2
          try clear hcz17_0
          try clear hcz17_1
          try clear hcz18_0
          try clear hcz18_1
          try clear hcz18_2
          try clear hcz20_0
          try clear hcz20_1
          try clear hcz25_0
          try clear hcz25_1
          try clear hcz27_0
          try clear hcz27_1
          try clear hcz28_0
          try clear hcz28_1
          try clear hcz28_2
          try clear hcz6_0
          try clear hcz6_1
          try clear hcz6_2
          try clear hfz10_0
          try clear hfz10_1
          try clear hfz14_0
          try clear hfz14_1
          try clear hfz15_0
          try clear hfz15_1
          try clear hfz15_2
          try clear hfz17_0
          try clear hfz17_1
          try clear hfz18_0
          try clear hfz18_1
          try clear hfz18_2
          try clear hfz20_0
          try clear hfz20_1
          try clear hfz25_0
          try clear hfz25_1
          try clear hfz27_0
          try clear hfz27_1
          try clear hfz28_0
          try clear hfz28_1
          try clear hfz28_2
          try clear hfz6_0
          try clear hfz6_1
          try clear hfz6_2
          try clear p2
          obtain ⟨kq, x13_20, rfl, HA, HJ20, BK101, BK105, HB⟩ := hcut
          cases kq with
          | zero => exact absurd HA.out (by simp [span_May.j1])
          | succ kj20 =>
            have H := HA.out
            clear HA
            simp only [span_May.j1] at H
            by_cases c29 : x13_20 = true
            · subst c29
              have H1 : (some 2) = some r := by rw [if_pos rfl] at H; exact H
              clear H
              have H := H1
              clear H1
              obtain rfl := Option.some.inj H
              go_wp2
              go_ret
              exact ⟨by first | rfl | (simp [errW_none, errW_some] <;> rfl) | (simp [*, errW_none, errW_some] <;> rfl), by repeat (first | (with_reducible first | exact HB.out | apply below_alloc | apply pw_below_drewN | apply below_drew1 | refine below_set ?_ GE101.out | refine below_set ?_ GE105.out) | exact HB.out)⟩
            · replace c29 := Bool.eq_false_iff.mpr c29
              subst c29
              have H1 : (if t102 = true then (span_May.j2 kj20 (a0_2.toList != ([] : List UInt8)) a0_0 a0_1 a0_2) else (span_May.j2 kj20 false a0_0 a0_1 a0_2)) = some r := by rw [if_neg (show ¬ (false = true) by decide)] at H; exact H
              clear H
              have H := H1
              clear H1
              have HC30 := Aside0.mk H
              clear H
              go_upto_region 7 with (fail)
              go_cut [34] (fun v34 wc => ∃ (kq : Nat) (x34_29 : Bool), v34 = .bool x34_29 ∧ Aside0 (span_May.j2 kq x34_29 a0_0 a0_1 a0_2 = some r) ∧ Aside0 (kq ≤ kj20) ∧ Aside0 (wc.heap[gb101]? = some (.cells #[.int .i64 a0_0, .int .i64 a0_1, .string a0_2] 33 (0, 0))) ∧ Aside0 (wc.heap[gb105]? = some (.cells #[.bool t102, .bool t103] 90 (0, 0))) ∧ Aside0 (Below w.heap.size w wc))
              case first =>
                have H := HC30.out
                clear HC30
                by_cases c31 : t102 = true
                · subst c31
                  have H1 : (span_May.j2 kj20 (a0_2.toList != ([] : List UInt8)) a0_0 a0_1 a0_2) = some r := by rw [if_pos rfl] at H; exact H
                  clear H
                  have H := H1
                  clear H1
                  have H' := Aside0.mk H
                  clear H
                  have hnb32 := NB105_101.out
                  have hnc32 := NB101_105.out
                  have hcz33_0 : wc.cell? ⟨gb105, 0, none⟩ = some (.bool true) := (blk_cell BK105.out 0).trans rfl
                  have hcz33_1 : wc.cell? ⟨gb105, 1, none⟩ = some (.bool t103) := (blk_cell BK105.out 1).trans rfl
                  have hfz33_0 := blk_frozen BK105.out 0
                  have hfz33_1 := blk_frozen BK105.out 1
                  have hcz34_0 : wc.cell? ⟨gb101, 0, none⟩ = some (.int .i64 a0_0) := (blk_cell BK101.out 0).trans rfl
                  have hcz34_1 : wc.cell? ⟨gb101, 1, none⟩ = some (.int .i64 a0_1) := (blk_cell BK101.out 1).trans rfl
                  have hcz34_2 : wc.cell? ⟨gb101, 2, none⟩ = some (.string a0_2) := (blk_cell BK101.out 2).trans rfl
                  have hfz34_0 := blk_frozen BK101.out 0
                  have hfz34_1 := blk_frozen BK101.out 1
                  have hfz34_2 := blk_frozen BK101.out 2
                  go_wp2
                  go_meet
                  case rel => exact ⟨_, ((a0_2.toList != ([] : List UInt8))), (by first | rfl | (simp; done) | (simp [*]; done) | (simp [isEmpty_bne]; done)), H', ⟨by have := HJ3.out; have := HJ20.out; first | omega | exact Nat.le_refl _⟩, ⟨by (with_reducible repeat (first | refine blk_drewN ?_ _ | refine blk_drew ?_ | refine blk_alloc ?_ _)); exact BK101.out⟩, ⟨by (with_reducible repeat (first | refine blk_drewN ?_ _ | refine blk_drew ?_ | refine blk_alloc ?_ _)); exact BK105.out⟩, ⟨by repeat (first | (with_reducible first | exact HB.out | apply below_alloc | apply pw_below_drewN | apply below_drew1 | refine below_set ?_ GE101.out | refine below_set ?_ GE105.out) | exact HB.out)⟩⟩
                · replace c31 := Bool.eq_false_iff.mpr c31
                  subst c31
                  have H1 : (span_May.j2 kj20 false a0_0 a0_1 a0_2) = some r := by rw [if_neg (show ¬ (false = true) by decide)] at H; exact H
                  clear H
                  have H := H1
                  clear H1
                  have H' := Aside0.mk H
                  clear H
                  have hnb35 := NB105_101.out
                  have hnc35 := NB101_105.out
                  have hcz36_0 : wc.cell? ⟨gb105, 0, none⟩ = some (.bool false) := (blk_cell BK105.out 0).trans rfl
                  have hcz36_1 : wc.cell? ⟨gb105, 1, none⟩ = some (.bool t103) := (blk_cell BK105.out 1).trans rfl
                  have hfz36_0 := blk_frozen BK105.out 0
                  have hfz36_1 := blk_frozen BK105.out 1
                  go_wp2
                  go_meet
                  case rel => exact ⟨_, (false), (by first | rfl | (simp; done) | (simp [*]; done) | (simp [isEmpty_bne]; done)), H', ⟨by have := HJ3.out; have := HJ20.out; first | omega | exact Nat.le_refl _⟩, ⟨by (with_reducible repeat (first | refine blk_drewN ?_ _ | refine blk_drew ?_ | refine blk_alloc ?_ _)); exact BK101.out⟩, ⟨by (with_reducible repeat (first | refine blk_drewN ?_ _ | refine blk_drew ?_ | refine blk_alloc ?_ _)); exact BK105.out⟩, ⟨by repeat (first | (with_reducible first | exact HB.out | apply below_alloc | apply pw_below_drewN | apply below_drew1 | refine below_set ?_ GE101.out | refine below_set ?_ GE105.out) | exact HB.out)⟩⟩
              case rest =>
                clear HC30
                try clear c1
                try clear c2
                try clear p2
                try clear c3
                try clear c5
                try clear c9
                try clear c11
                try clear c12
                try clear c12b0
                try clear c13
                try clear c16
                try clear c19
                try clear c22
                try clear c23
                try clear c24
                try clear c26
                try clear c29
                try clear c31
                try clear c32
                try clear c35
                try clear hcz10_0
                try clear hcz10_1
                try clear hcz14_0
                try clear hcz14_1
                try clear hcz15_0
                try clear hcz15_1
                try clear hcz15_2
                try clear hcz17_0
                try clear hcz17_1
                try clear hcz18_0
                try clear hcz18_1
                try clear hcz18_2
                try clear hcz20_0
                try clear hcz20_1
                try clear hcz25_0
                try clear hcz25_1
                try clear hcz27_0
                try clear hcz27_1
                try clear hcz28_0
                try clear hcz28_1
                try clear hcz28_2
                try clear hcz33_0
                try clear hcz33_1
                try clear hcz34_0
                try clear hcz34_1
                try clear hcz34_2
                try clear hcz36_0
                try clear hcz36_1
                try clear hcz6_0
                try clear hcz6_1
                try clear hcz6_2
                try clear hfz10_0
                try clear hfz10_1
                try clear hfz14_0
                try clear hfz14_1
                try clear hfz15_0
                try clear hfz15_1
                try clear hfz15_2
                try clear hfz17_0
                try clear hfz17_1
                try clear hfz18_0
                try clear hfz18_1
                try clear hfz18_2
                try clear hfz20_0
                try clear hfz20_1
                try clear hfz25_0
                try clear hfz25_1
                try clear hfz27_0
                try clear hfz27_1
                try clear hfz28_0
                try clear hfz28_1
                try clear hfz28_2
                try clear hfz33_0
                try clear hfz33_1
                try clear hfz34_0
                try clear hfz34_1
                try clear hfz34_2
                try clear hfz36_0
                try clear hfz36_1
                try clear hfz6_0
                try clear hfz6_1
                try clear hfz6_2
                try clear p2
                obtain ⟨kq, x34_29, rfl, HA, HJ29, BK101, BK105, HB⟩ := hcut
                cases kq with
                | zero => exact absurd HA.out (by simp [span_May.j2])
                | succ kj29 =>
                  have H := HA.out
                  clear HA
                  simp only [span_May.j2] at H
                  by_cases c37 : x34_29 = true
                  · subst c37
                    have H1 : (some 3) = some r := by rw [if_pos rfl] at H; exact H
                    clear H
                    have H := H1
                    clear H1
                    obtain rfl := Option.some.inj H
                    go_wp2
                    go_ret
                    exact ⟨by first | rfl | (simp [errW_none, errW_some] <;> rfl) | (simp [*, errW_none, errW_some] <;> rfl), by repeat (first | (with_reducible first | exact HB.out | apply below_alloc | apply pw_below_drewN | apply below_drew1 | refine below_set ?_ GE101.out | refine below_set ?_ GE105.out) | exact HB.out)⟩
                  · replace c37 := Bool.eq_false_iff.mpr c37
                    subst c37
                    have H1 : ((points_Valid.f a0_2).bind fun t106 => (if t106 = true then (some 0) else (some 3))) = some r := by rw [if_neg (show ¬ (false = true) by decide)] at H; exact H
                    clear H
                    have H := H1
                    clear H1
                    replace H := Option.bind_eq_some_iff.mp H
                    obtain ⟨t106, A380, H⟩ := H
                    replace H : (if t106 = true then (some 0) else (some 3)) = some r := H
                    have A38 := Aside0.mk A380
                    clear A380
                    by_cases c39 : t106 = true
                    · subst c39
                      have H1 : (some 0) = some r := by rw [if_pos rfl] at H; exact H
                      clear H
                      have H := H1
                      clear H1
                      obtain rfl := Option.some.inj H
                      have hnb40 := NB101_105.out
                      have hnc40 := NB105_101.out
                      have hcz41_0 : wc.cell? ⟨gb101, 0, none⟩ = some (.int .i64 a0_0) := (blk_cell BK101.out 0).trans rfl
                      have hcz41_1 : wc.cell? ⟨gb101, 1, none⟩ = some (.int .i64 a0_1) := (blk_cell BK101.out 1).trans rfl
                      have hcz41_2 : wc.cell? ⟨gb101, 2, none⟩ = some (.string a0_2) := (blk_cell BK101.out 2).trans rfl
                      have hfz41_0 := blk_frozen BK101.out 0
                      have hfz41_1 := blk_frozen BK101.out 1
                      have hfz41_2 := blk_frozen BK101.out 2
                      go_wp2_with (first | ((with_reducible refine gate_callee (f := 48) rfl ?_); refine goesL_ (some 44) rfl rfl Tryd.func48 (by kernel_rfl) rfl #[.string a0_2] rfl (by (try simp only [List.map_toArray, List.map_cons, List.map_nil]); first | done | rfl | (simp only [List.length_drop, List.length_take]; rfl)) ?_; (with_reducible refine (points_Valid.calls a0_2 true _ ?side1 A38.out).mono ?_); (case side1 => first | (with_reducible exact HG.out) | exact Glob.below HG.out (by repeat (first | (with_reducible first | exact HB.out | apply below_alloc | apply pw_below_drewN | apply below_drew1 | refine below_set ?_ GE101.out | refine below_set ?_ GE105.out) | exact HB.out)) | exact Glob.drawn HG.out (by repeat (first | exact Drawn0.refl _ | apply Drawn0.step))); rintro e w42 ⟨rfl, hb⟩; refine ⟨_, rfl, ?_⟩; have n0_ := Aside0.mk (blk_below (g := gb101) (o := .cells #[.int .i64 a0_0, .int .i64 a0_1, .string a0_2] 33 (0, 0)) (by (with_reducible repeat (first | refine blk_drewN ?_ _ | refine blk_drew ?_ | refine blk_alloc ?_ _)); exact BK101.out) hb); have n1_ := Aside0.mk (blk_below (g := gb105) (o := .cells #[.bool t102, .bool t103] 90 (0, 0)) (by (with_reducible repeat (first | refine blk_drewN ?_ _ | refine blk_drew ?_ | refine blk_alloc ?_ _)); exact BK105.out) hb); have n2_ := Aside0.mk (below_step (by repeat (first | (with_reducible first | exact HB.out | apply below_alloc | apply pw_below_drewN | apply below_drew1 | refine below_set ?_ GE101.out | refine below_set ?_ GE105.out) | exact HB.out)) hb); clear BK101; clear BK105; clear HB; have BK101 := n0_; have BK105 := n1_; have HB := n2_; clear n0_ n1_ n2_; (try clear hb); (try clear hb2); (try clear hk); (try clear hi)))
                      go_ret
                      exact ⟨by first | rfl | (simp [errW_none, errW_some] <;> rfl) | (simp [*, errW_none, errW_some] <;> rfl), by repeat (first | (with_reducible first | exact HB.out | apply below_alloc | apply pw_below_drewN | apply below_drew1 | refine below_set ?_ GE101.out | refine below_set ?_ GE105.out) | exact HB.out)⟩
                    · replace c39 := Bool.eq_false_iff.mpr c39
                      subst c39
                      have H1 : (some 3) = some r := by rw [if_neg (show ¬ (false = true) by decide)] at H; exact H
                      clear H
                      have H := H1
                      clear H1
                      obtain rfl := Option.some.inj H
                      have hnb43 := NB101_105.out
                      have hnc43 := NB105_101.out
                      have hcz44_0 : wc.cell? ⟨gb101, 0, none⟩ = some (.int .i64 a0_0) := (blk_cell BK101.out 0).trans rfl
                      have hcz44_1 : wc.cell? ⟨gb101, 1, none⟩ = some (.int .i64 a0_1) := (blk_cell BK101.out 1).trans rfl
                      have hcz44_2 : wc.cell? ⟨gb101, 2, none⟩ = some (.string a0_2) := (blk_cell BK101.out 2).trans rfl
                      have hfz44_0 := blk_frozen BK101.out 0
                      have hfz44_1 := blk_frozen BK101.out 1
                      have hfz44_2 := blk_frozen BK101.out 2
                      go_wp2_with (first | ((with_reducible refine gate_callee (f := 48) rfl ?_); refine goesL_ (some 44) rfl rfl Tryd.func48 (by kernel_rfl) rfl #[.string a0_2] rfl (by (try simp only [List.map_toArray, List.map_cons, List.map_nil]); first | done | rfl | (simp only [List.length_drop, List.length_take]; rfl)) ?_; (with_reducible refine (points_Valid.calls a0_2 false _ ?side1 A38.out).mono ?_); (case side1 => first | (with_reducible exact HG.out) | exact Glob.below HG.out (by repeat (first | (with_reducible first | exact HB.out | apply below_alloc | apply pw_below_drewN | apply below_drew1 | refine below_set ?_ GE101.out | refine below_set ?_ GE105.out) | exact HB.out)) | exact Glob.drawn HG.out (by repeat (first | exact Drawn0.refl _ | apply Drawn0.step))); rintro e w45 ⟨rfl, hb⟩; refine ⟨_, rfl, ?_⟩; have n0_ := Aside0.mk (blk_below (g := gb101) (o := .cells #[.int .i64 a0_0, .int .i64 a0_1, .string a0_2] 33 (0, 0)) (by (with_reducible repeat (first | refine blk_drewN ?_ _ | refine blk_drew ?_ | refine blk_alloc ?_ _)); exact BK101.out) hb); have n1_ := Aside0.mk (blk_below (g := gb105) (o := .cells #[.bool t102, .bool t103] 90 (0, 0)) (by (with_reducible repeat (first | refine blk_drewN ?_ _ | refine blk_drew ?_ | refine blk_alloc ?_ _)); exact BK105.out) hb); have n2_ := Aside0.mk (below_step (by repeat (first | (with_reducible first | exact HB.out | apply below_alloc | apply pw_below_drewN | apply below_drew1 | refine below_set ?_ GE101.out | refine below_set ?_ GE105.out) | exact HB.out)) hb); clear BK101; clear BK105; clear HB; have BK101 := n0_; have BK105 := n1_; have HB := n2_; clear n0_ n1_ n2_; (try clear hb); (try clear hb2); (try clear hk); (try clear hi)))
                      go_ret
                      exact ⟨by first | rfl | (simp [errW_none, errW_some] <;> rfl) | (simp [*, errW_none, errW_some] <;> rfl), by repeat (first | (with_reducible first | exact HB.out | apply below_alloc | apply pw_below_drewN | apply below_drew1 | refine below_set ?_ GE101.out | refine below_set ?_ GE105.out) | exact HB.out)⟩
  · replace c3 := Bool.eq_false_iff.mpr c3
    subst c3
    have H1 : (some 1) = some r := by rw [if_neg (show ¬ (false = true) by decide)] at H; exact H
    clear H
    have H := H1
    clear H1
    obtain rfl := Option.some.inj H
    go_enter Tryd.func57, Tryd.ntmps57
    go_wp2_with (first | ((with_reducible refine gate_dst (N := 1) rfl ?_); refine box_event ?hg (N := 1) ?hd (cs := #[.int .i64 a0_0, .int .i64 a0_1, .string a0_2]) (t := 33) ?hr ?_; (case hd => rfl); (case hg => rfl); (case hr => first | (go_simp; done) | (go_simp; rfl)); intro gb101 hg w46 hbox hb; have n0_ := Aside0.mk (below_step (by repeat (first | (with_reducible first | exact HB.out | apply below_alloc | apply pw_below_drewN | apply below_drew1) | exact HB.out)) hb); have n1_ := Aside0.mk (hbox); have n2_ := Aside0.mk ((by rw [hg]; exact (below_size (by repeat (first | (with_reducible first | exact HB.out | apply below_alloc | apply pw_below_drewN | apply below_drew1) | exact HB.out))) : w.heap.size ≤ gb101)); have n3_ := Aside0.mk ((by rw [hg]; exact (below_size (by repeat (first | (with_reducible first | exact HB.out | apply below_alloc | apply pw_below_drewN | apply below_drew1) | exact HB.out))) : w.heap.size ≤ gb101)); clear HB; have HB := n0_; have BK101 := n1_; have GW101 := n2_; have GE101 := n3_; clear n0_ n1_ n2_ n3_; clear hb hbox hg; have hcz47_0 : w46.cell? ⟨gb101, 0, none⟩ = some (.int .i64 a0_0) := (blk_cell BK101.out 0).trans rfl; have hcz47_1 : w46.cell? ⟨gb101, 1, none⟩ = some (.int .i64 a0_1) := (blk_cell BK101.out 1).trans rfl; have hcz47_2 : w46.cell? ⟨gb101, 2, none⟩ = some (.string a0_2) := (blk_cell BK101.out 2).trans rfl; have hfz47_0 := blk_frozen BK101.out 0; have hfz47_1 := blk_frozen BK101.out 1; have hfz47_2 := blk_frozen BK101.out 2) | ((with_reducible refine gate_callee (f := 58) rfl ?_); refine goesL_ (some 7) rfl rfl Tryd.func58 (by kernel_rfl) rfl #[.agg #[.int .i64 a0_0, .int .i64 a0_1, .string a0_2]] rfl (by (try simp only [List.map_toArray, List.map_cons, List.map_nil]); first | done | rfl | (simp only [List.length_drop, List.length_take]; rfl)) ?_; (with_reducible refine (span_of.calls a0_0 a0_1 a0_2 t102 t103 false _ ?side1 A2.out).mono ?_); (case side1 => first | (with_reducible exact HG.out) | exact Glob.below HG.out (by repeat (first | (with_reducible first | exact HB.out | apply below_alloc | apply pw_below_drewN | apply below_drew1 | refine below_set ?_ GE101.out) | exact HB.out)) | exact Glob.drawn HG.out (by repeat (first | exact Drawn0.refl _ | apply Drawn0.step))); rintro e w48 ⟨rfl, hb⟩; refine ⟨_, rfl, ?_⟩; have n0_ := Aside0.mk (blk_below (g := gb101) (o := .cells #[.int .i64 a0_0, .int .i64 a0_1, .string a0_2] 33 (0, 0)) (by (with_reducible repeat (first | refine blk_drewN ?_ _ | refine blk_drew ?_ | refine blk_alloc ?_ _)); exact BK101.out) hb); have n1_ := Aside0.mk (below_step (by repeat (first | (with_reducible first | exact HB.out | apply below_alloc | apply pw_below_drewN | apply below_drew1 | refine below_set ?_ GE101.out) | exact HB.out)) hb); clear BK101; clear HB; have BK101 := n0_; have HB := n1_; clear n0_ n1_; (try clear hb); (try clear hb2); (try clear hk); (try clear hi)) | ((with_reducible refine gate_dst (N := 3) rfl ?_); refine box_event ?hg (N := 3) ?hd (cs := #[.bool false, .bool false]) (t := 90) ?hr ?_; (case hd => rfl); (case hg => rfl); (case hr => first | (go_simp; done) | (go_simp; rfl)); intro gb105 hg w49 hbox hb; have n0_ := Aside0.mk (blk_below (g := gb101) (o := .cells #[.int .i64 a0_0, .int .i64 a0_1, .string a0_2] 33 (0, 0)) (by (with_reducible repeat (first | refine blk_drewN ?_ _ | refine blk_drew ?_ | refine blk_alloc ?_ _)); exact BK101.out) hb); have n1_ := Aside0.mk (below_step (by repeat (first | (with_reducible first | exact HB.out | apply below_alloc | apply pw_below_drewN | apply below_drew1 | refine below_set ?_ GE101.out) | exact HB.out)) hb); have n2_ := Aside0.mk (hbox); have n3_ := Aside0.mk ((by rw [hg]; exact (below_size (by repeat (first | (with_reducible first | exact HB.out | apply below_alloc | apply pw_below_drewN | apply below_drew1 | refine below_set ?_ GE101.out) | exact HB.out))) : w.heap.size ≤ gb105)); have n4_ := Aside0.mk ((by rw [hg]; exact (below_size (by repeat (first | (with_reducible first | exact HB.out | apply below_alloc | apply pw_below_drewN | apply below_drew1 | refine below_set ?_ GE101.out) | exact HB.out))) : w.heap.size ≤ gb105)); have n5_ := Aside0.mk ((by rw [hg]; exact Nat.ne_of_lt (blk_lt (g := gb101) (o := .cells #[.int .i64 a0_0, .int .i64 a0_1, .string a0_2] 33 (0, 0)) (by (with_reducible repeat (first | refine blk_drewN ?_ _ | refine blk_drew ?_ | refine blk_alloc ?_ _)); exact BK101.out)) : gb101 ≠ gb105)); have n6_ := Aside0.mk ((by rw [hg]; exact Nat.ne_of_gt (blk_lt (g := gb101) (o := .cells #[.int .i64 a0_0, .int .i64 a0_1, .string a0_2] 33 (0, 0)) (by (with_reducible repeat (first | refine blk_drewN ?_ _ | refine blk_drew ?_ | refine blk_alloc ?_ _)); exact BK101.out)) : gb105 ≠ gb101)); clear BK101; clear HB; have BK101 := n0_; have HB := n1_; have BK105 := n2_; have GW105 := n3_; have GE105 := n4_; have NB101_105 := n5_; have NB105_101 := n6_; clear n0_ n1_ n2_ n3_ n4_ n5_ n6_; clear hb hbox hg; have hnb50 := NB105_101.out; have hnc50 := NB101_105.out; have hcz51_0 : w49.cell? ⟨gb105, 0, none⟩ = some (.bool false) := (blk_cell BK105.out 0).trans rfl; have hcz51_1 : w49.cell? ⟨gb105, 1, none⟩ = some (.bool false) := (blk_cell BK105.out 1).trans rfl; have hfz51_0 := blk_frozen BK105.out 0; have hfz51_1 := blk_frozen BK105.out 1))
    go_ret
    exact ⟨by first | rfl | (simp [errW_none, errW_some] <;> rfl) | (simp [*, errW_none, errW_some] <;> rfl), by repeat (first | (with_reducible first | exact HB.out | apply below_alloc | apply pw_below_drewN | apply below_drew1 | refine below_set ?_ GE101.out | refine below_set ?_ GE105.out) | exact HB.out)⟩
end Go.Proofs.YtkgicpnnlkcaeaaDoor.F
end
section
namespace Go.Proofs.YtkgicpnnlkcaeaaDoor.F
open Go.RowKit Go.Proofs.YtkgicpnnlkcaeaaDoorW.PrintWords Go.Proofs.YtkgicpnnlkcaeaaDoorW.PrintLast Go.Proofs.YtkgicpnnlkcaeaaDoorW.PrintMore
attribute [local go_sem] max2_int min2_int max_two min_two max_three min_three max_four min_four cell_setCell_isSome
set_option linter.unusedVariables false
set_option linter.unusedSimpArgs false
def op_May.l0 : Nat → List (S33) → List (S33) → Int → Int → Option (Int)
  | 0, _, _, _, _ => none
  | k + 1, x0, x6, x7, x8 => if x8 < x7 then (if 0 ≤ x8 then (if x8 < (x6.length : Int) then ((span_May.f k ((rd_T33 x6 x8).f0) ((rd_T33 x6 x8).f1) ((rd_T33 x6 x8).f2)).bind fun t103 => (if t103 = 0 then (op_May.l0 k x0 x6 x7 (wrap64 (x8 + 1))) else (some t103))) else (none)) else (none)) else ((op_In.f k x0).bind fun t104 => (if t104 > 1048576 then (some 4) else (some 0)))
def op_May.f (k : Nat) (l0 : List (S33)) : Option (Int) := op_May.l0 k l0 l0 (l0.length : Int) 0
set_option maxHeartbeats 8000000 in
set_option maxRecDepth 100000 in
theorem op_May.calls (k : Nat) (A0 : Option Addr) (c0 : Nat) (l0 : List (S33)) (r : Int) (w : World) (hG : Glob w) (hr0 : Kd.C k33 w A0 l0.length l0) (hc0 : l0.length ≤ c0) (h : op_May.f k l0 = some r) :
    Calls Tryd.prog 42 #[.slice A0 l0.length c0] w fun e w' => e = .returned (.int .i64 r) ∧ Below w.heap.size w w' := by
  have hu33 := Tryd.underlying33
  have HG := Aside0.mk hG
  clear hG
  have HR0 := Aside0.mk hr0
  have HC0 := Aside0.mk hc0
  clear hr0 hc0
  have HB := Aside0.mk (Below.refl w.heap.size w)
  have H : (op_May.l0 k l0 l0 (l0.length : Int) 0) = some r := h
  clear h
  have H' := Aside0.mk H
  clear H
  go_enter Tryd.func42, Tryd.ntmps42
  go_wp2
  go_loopg [8] k (fun kq v8 w' => ∃ (x8_1 : Int), v8 = .int .i64 x8_1 ∧ Aside0 (op_May.l0 kq l0 l0 (l0.length : Int) x8_1 = some r) ∧ Aside0 (kq ≤ k) ∧ Aside0 (Below w.heap.size w w'))
  case atStart => exact ⟨(0), (by first | rfl | (simp; done) | (simp [*]; done)), H', ⟨Nat.le_refl _⟩, ⟨by repeat (first | (with_reducible first | exact HB.out | apply below_alloc | apply pw_below_drewN | apply below_drew1) | exact HB.out)⟩⟩
  case round =>
    clear H'
    obtain ⟨x8_1, rfl, HA, HK1, HB⟩ := hrel
    cases gk with
    | zero => exact absurd HA.out (by simp [op_May.l0])
    | succ k1 =>
      have H := HA.out
      clear HA
      simp only [op_May.l0] at H
      by_cases c2 : x8_1 < (l0.length : Int)
      · rw [if_pos c2] at H
        have c2b0 : decide (x8_1 < (l0.length : Int)) = true := decide_eq_true c2
        clear c2
        by_cases c3 : 0 ≤ x8_1
        · rw [if_pos c3] at H
          have c3b0 : decide (0 ≤ x8_1) = true := decide_eq_true c3
          clear c3
          by_cases c4 : x8_1 < (l0.length : Int)
          · rw [if_pos c4] at H
            have c4b0 : decide (x8_1 < (l0.length : Int)) = true := decide_eq_true c4
            clear c4
            replace H := Option.bind_eq_some_iff.mp H
            obtain ⟨t103, A50, H⟩ := H
            replace H : (if t103 = 0 then (op_May.l0 k1 l0 l0 (l0.length : Int) (wrap64 (x8_1 + 1))) else (some t103)) = some r := H
            have A5 := Aside0.mk A50
            clear A50
            by_cases c6 : t103 = 0
            · rw [if_pos c6] at H
              have c6b0 : (t103 == 0) = true := beq_iff_eq.mpr c6
              have c6b1 : (t103 != 0) = false := bne_eq_false_iff_eq.mpr c6
              clear c6
              have H' := Aside0.mk H
              clear H
              have p101 : 0 ≤ (x8_1 : Int) := of_decide_eq_true (by first | (with_reducible assumption) | assumption)
              have q101 : x8_1 < (l0.length : Int) := of_decide_eq_true (by first | (with_reducible assumption) | assumption)
              obtain ⟨ad101, e101, hx101_0, hx101_1, hx101_2⟩ := at_T33 HR0.out x8_1 p101 q101
              cases e101
              replace hx101_0 := (HB.out.cell (World.block_lt_of_cell? w _ hx101_0)).trans hx101_0
              replace hx101_1 := (HB.out.cell (World.block_lt_of_cell? w _ hx101_1)).trans hx101_1
              replace hx101_2 := (HB.out.cell (World.block_lt_of_cell? w _ hx101_2)).trans hx101_2
              replace p101 := eq_true p101
              replace q101 := eq_true q101
              go_wp2_with (first | ((with_reducible refine gate_dst (N := 4) rfl ?_); refine box_event ?hg (N := 4) ?hd (cs := #[.int .i64 0, .int .i64 0, .string (⟨#[]⟩ : ByteArray)]) (t := 33) ?hr ?_; (case hd => rfl); (case hg => rfl); (case hr => first | (go_simp; done) | (go_simp; rfl)); intro gb102 hg w7 hbox hb; have n0_ := Aside0.mk (below_step (by repeat (first | (with_reducible first | exact HB.out | apply below_alloc | apply pw_below_drewN | apply below_drew1) | exact HB.out)) hb); have n1_ := Aside0.mk (hbox); have n2_ := Aside0.mk ((by rw [hg]; exact (below_size (by repeat (first | (with_reducible first | exact HB.out | apply below_alloc | apply pw_below_drewN | apply below_drew1) | exact HB.out))) : w.heap.size ≤ gb102)); have n3_ := Aside0.mk ((by rw [hg]; exact (below_size (by repeat (first | (with_reducible first | exact HB.out | apply below_alloc | apply pw_below_drewN | apply below_drew1) | exact HB.out))) : w.heap.size ≤ gb102)); clear HB; have HB := n0_; have BK102 := n1_; have GW102 := n2_; have GE102 := n3_; clear n0_ n1_ n2_ n3_; clear hb hbox hg; have hcz8_0 : w7.cell? ⟨gb102, 0, none⟩ = some (.int .i64 0) := (blk_cell BK102.out 0).trans rfl; have hcz8_1 : w7.cell? ⟨gb102, 1, none⟩ = some (.int .i64 0) := (blk_cell BK102.out 1).trans rfl; have hcz8_2 : w7.cell? ⟨gb102, 2, none⟩ = some (.string (⟨#[]⟩ : ByteArray)) := (blk_cell BK102.out 2).trans rfl; have hfz8_0 := blk_frozen BK102.out 0; have hfz8_1 := blk_frozen BK102.out 1; have hfz8_2 := blk_frozen BK102.out 2) | ((with_reducible refine gate_callee (f := 57) rfl ?_); refine goesL_ (some 13) rfl rfl Tryd.func57 (by kernel_rfl) rfl #[.agg #[.int .i64 ((rd_T33 l0 x8_1).f0), .int .i64 ((rd_T33 l0 x8_1).f1), .string ((rd_T33 l0 x8_1).f2)]] rfl (by (try simp only [List.map_toArray, List.map_cons, List.map_nil]); first | done | rfl | (simp only [List.length_drop, List.length_take]; rfl)) ?_; (with_reducible refine (span_May.calls k1 ((rd_T33 l0 x8_1).f0) ((rd_T33 l0 x8_1).f1) ((rd_T33 l0 x8_1).f2) t103 _ ?side1 A5.out).mono ?_); (case side1 => first | (with_reducible exact HG.out) | exact Glob.below HG.out (by repeat (first | (with_reducible first | exact HB.out | apply below_alloc | apply pw_below_drewN | apply below_drew1 | refine below_set ?_ GE102.out) | exact HB.out)) | exact Glob.drawn HG.out (by repeat (first | exact Drawn0.refl _ | apply Drawn0.step))); rintro e w9 ⟨rfl, hb⟩; refine ⟨_, rfl, ?_⟩; have n0_ := Aside0.mk (blk_below (g := gb102) (o := .cells #[.int .i64 ((rd_T33 l0 x8_1).f0), .int .i64 ((rd_T33 l0 x8_1).f1), .string ((rd_T33 l0 x8_1).f2)] 33 (0, 0)) (by (with_reducible repeat (first | refine blk_drewN ?_ _ | refine blk_drew ?_ | refine blk_alloc ?_ _)); refine blk_put (cs := #[.int .i64 ((rd_T33 l0 x8_1).f0), .int .i64 ((rd_T33 l0 x8_1).f1), .string (⟨#[]⟩ : ByteArray)]) ?_ 2 _ rfl; (with_reducible repeat (first | refine blk_drewN ?_ _ | refine blk_drew ?_ | refine blk_alloc ?_ _)); refine blk_put (cs := #[.int .i64 ((rd_T33 l0 x8_1).f0), .int .i64 0, .string (⟨#[]⟩ : ByteArray)]) ?_ 1 _ rfl; (with_reducible repeat (first | refine blk_drewN ?_ _ | refine blk_drew ?_ | refine blk_alloc ?_ _)); refine blk_put (cs := #[.int .i64 0, .int .i64 0, .string (⟨#[]⟩ : ByteArray)]) ?_ 0 _ rfl; (with_reducible repeat (first | refine blk_drewN ?_ _ | refine blk_drew ?_ | refine blk_alloc ?_ _)); exact BK102.out) hb); have n1_ := Aside0.mk (below_step (by repeat (first | (with_reducible first | exact HB.out | apply below_alloc | apply pw_below_drewN | apply below_drew1 | refine below_set ?_ GE102.out) | exact HB.out)) hb); clear BK102; clear HB; have BK102 := n0_; have HB := n1_; clear n0_ n1_; (try clear hb); (try clear hb2); (try clear hk); (try clear hi)))
              go_roundg k1
              case measure => have := HK1.out; omega
              case rel => exact ⟨(wrap64 (x8_1 + 1)), (by first | rfl | (simp; done) | (simp [*]; done)), H', ⟨by have := HK1.out; omega⟩, ⟨by repeat (first | (with_reducible first | exact HB.out | apply below_alloc | apply pw_below_drewN | apply below_drew1 | refine below_set ?_ GE102.out) | exact HB.out)⟩⟩
            · rw [if_neg c6] at H
              have c6b0 : (t103 == 0) = false := beq_eq_false_iff_ne.mpr c6
              have c6b1 : (t103 != 0) = true := bne_iff_ne.mpr c6
              obtain rfl := Option.some.inj H
              have p101 : 0 ≤ (x8_1 : Int) := of_decide_eq_true (by first | (with_reducible assumption) | assumption)
              have q101 : x8_1 < (l0.length : Int) := of_decide_eq_true (by first | (with_reducible assumption) | assumption)
              obtain ⟨ad101, e101, hx101_0, hx101_1, hx101_2⟩ := at_T33 HR0.out x8_1 p101 q101
              cases e101
              replace hx101_0 := (HB.out.cell (World.block_lt_of_cell? w _ hx101_0)).trans hx101_0
              replace hx101_1 := (HB.out.cell (World.block_lt_of_cell? w _ hx101_1)).trans hx101_1
              replace hx101_2 := (HB.out.cell (World.block_lt_of_cell? w _ hx101_2)).trans hx101_2
              replace p101 := eq_true p101
              replace q101 := eq_true q101
              go_wp2_with (first | ((with_reducible refine gate_dst (N := 4) rfl ?_); refine box_event ?hg (N := 4) ?hd (cs := #[.int .i64 0, .int .i64 0, .string (⟨#[]⟩ : ByteArray)]) (t := 33) ?hr ?_; (case hd => rfl); (case hg => rfl); (case hr => first | (go_simp; done) | (go_simp; rfl)); intro gb102 hg w10 hbox hb; have n0_ := Aside0.mk (below_step (by repeat (first | (with_reducible first | exact HB.out | apply below_alloc | apply pw_below_drewN | apply below_drew1) | exact HB.out)) hb); have n1_ := Aside0.mk (hbox); have n2_ := Aside0.mk ((by rw [hg]; exact (below_size (by repeat (first | (with_reducible first | exact HB.out | apply below_alloc | apply pw_below_drewN | apply below_drew1) | exact HB.out))) : w.heap.size ≤ gb102)); have n3_ := Aside0.mk ((by rw [hg]; exact (below_size (by repeat (first | (with_reducible first | exact HB.out | apply below_alloc | apply pw_below_drewN | apply below_drew1) | exact HB.out))) : w.heap.size ≤ gb102)); clear HB; have HB := n0_; have BK102 := n1_; have GW102 := n2_; have GE102 := n3_; clear n0_ n1_ n2_ n3_; clear hb hbox hg; have hcz11_0 : w10.cell? ⟨gb102, 0, none⟩ = some (.int .i64 0) := (blk_cell BK102.out 0).trans rfl; have hcz11_1 : w10.cell? ⟨gb102, 1, none⟩ = some (.int .i64 0) := (blk_cell BK102.out 1).trans rfl; have hcz11_2 : w10.cell? ⟨gb102, 2, none⟩ = some (.string (⟨#[]⟩ : ByteArray)) := (blk_cell BK102.out 2).trans rfl; have hfz11_0 := blk_frozen BK102.out 0; have hfz11_1 := blk_frozen BK102.out 1; have hfz11_2 := blk_frozen BK102.out 2) | ((with_reducible refine gate_callee (f := 57) rfl ?_); refine goesL_ (some 13) rfl rfl Tryd.func57 (by kernel_rfl) rfl #[.agg #[.int .i64 ((rd_T33 l0 x8_1).f0), .int .i64 ((rd_T33 l0 x8_1).f1), .string ((rd_T33 l0 x8_1).f2)]] rfl (by (try simp only [List.map_toArray, List.map_cons, List.map_nil]); first | done | rfl | (simp only [List.length_drop, List.length_take]; rfl)) ?_; (with_reducible refine (span_May.calls k1 ((rd_T33 l0 x8_1).f0) ((rd_T33 l0 x8_1).f1) ((rd_T33 l0 x8_1).f2) t103 _ ?side1 A5.out).mono ?_); (case side1 => first | (with_reducible exact HG.out) | exact Glob.below HG.out (by repeat (first | (with_reducible first | exact HB.out | apply below_alloc | apply pw_below_drewN | apply below_drew1 | refine below_set ?_ GE102.out) | exact HB.out)) | exact Glob.drawn HG.out (by repeat (first | exact Drawn0.refl _ | apply Drawn0.step))); rintro e w12 ⟨rfl, hb⟩; refine ⟨_, rfl, ?_⟩; have n0_ := Aside0.mk (blk_below (g := gb102) (o := .cells #[.int .i64 ((rd_T33 l0 x8_1).f0), .int .i64 ((rd_T33 l0 x8_1).f1), .string ((rd_T33 l0 x8_1).f2)] 33 (0, 0)) (by (with_reducible repeat (first | refine blk_drewN ?_ _ | refine blk_drew ?_ | refine blk_alloc ?_ _)); refine blk_put (cs := #[.int .i64 ((rd_T33 l0 x8_1).f0), .int .i64 ((rd_T33 l0 x8_1).f1), .string (⟨#[]⟩ : ByteArray)]) ?_ 2 _ rfl; (with_reducible repeat (first | refine blk_drewN ?_ _ | refine blk_drew ?_ | refine blk_alloc ?_ _)); refine blk_put (cs := #[.int .i64 ((rd_T33 l0 x8_1).f0), .int .i64 0, .string (⟨#[]⟩ : ByteArray)]) ?_ 1 _ rfl; (with_reducible repeat (first | refine blk_drewN ?_ _ | refine blk_drew ?_ | refine blk_alloc ?_ _)); refine blk_put (cs := #[.int .i64 0, .int .i64 0, .string (⟨#[]⟩ : ByteArray)]) ?_ 0 _ rfl; (with_reducible repeat (first | refine blk_drewN ?_ _ | refine blk_drew ?_ | refine blk_alloc ?_ _)); exact BK102.out) hb); have n1_ := Aside0.mk (below_step (by repeat (first | (with_reducible first | exact HB.out | apply below_alloc | apply pw_below_drewN | apply below_drew1 | refine below_set ?_ GE102.out) | exact HB.out)) hb); clear BK102; clear HB; have BK102 := n0_; have HB := n1_; clear n0_ n1_; (try clear hb); (try clear hb2); (try clear hk); (try clear hi)))
              go_ret
              exact ⟨by first | rfl | (simp [errW_none, errW_some] <;> rfl) | (simp [*, errW_none, errW_some] <;> rfl), by repeat (first | (with_reducible first | exact HB.out | apply below_alloc | apply pw_below_drewN | apply below_drew1 | refine below_set ?_ GE102.out) | exact HB.out)⟩
          · rw [if_neg c4] at H
            exact absurd H (by simp)
        · rw [if_neg c3] at H
          exact absurd H (by simp)
      · rw [if_neg c2] at H
        have c2b0 : decide (x8_1 < (l0.length : Int)) = false := decide_eq_false c2
        clear c2
        replace H := Option.bind_eq_some_iff.mp H
        obtain ⟨t104, A130, H⟩ := H
        replace H : (if t104 > 1048576 then (some 4) else (some 0)) = some r := H
        have A13 := Aside0.mk A130
        clear A130
        by_cases c14 : t104 > 1048576
        · rw [if_pos c14] at H
          have c14b0 : decide (1048576 < t104) = true := decide_eq_true c14
          clear c14
          obtain rfl := Option.some.inj H
          go_wp2_with (first | ((with_reducible refine gate_callee (f := 20) rfl ?_); refine goesL_ (some 19) rfl rfl Tryd.func20 (by kernel_rfl) rfl #[.slice A0 l0.length c0] rfl (by (try simp only [List.map_toArray, List.map_cons, List.map_nil]); first | done | rfl | (simp only [List.length_drop, List.length_take]; rfl)) ?_; (with_reducible refine (op_In.calls k1 _ _ l0 t104 _ ?side1 ?side2 ?side3 A13.out).mono ?_); (case side1 => first | (with_reducible exact HG.out) | exact Glob.below HG.out (by repeat (first | (with_reducible first | exact HB.out | apply below_alloc | apply pw_below_drewN | apply below_drew1) | exact HB.out)) | exact Glob.drawn HG.out (by repeat (first | exact Drawn0.refl _ | apply Drawn0.step))); (case side2 => repeat (first | exact (Kd.C_below HR0.out HB.out) | (with_reducible refine Kd.C_alloc ?_ _) | (with_reducible refine Kd.C_drewN ?_ _) | (with_reducible refine Kd.C_drew ?_))); (case side3 => exact HC0.out); rintro e w15 ⟨rfl, hb⟩; refine ⟨_, rfl, ?_⟩; have n0_ := Aside0.mk (below_step (by repeat (first | (with_reducible first | exact HB.out | apply below_alloc | apply pw_below_drewN | apply below_drew1) | exact HB.out)) hb); clear HB; have HB := n0_; clear n0_; (try clear hb); (try clear hb2); (try clear hk); (try clear hi)))
          go_ret
          exact ⟨by first | rfl | (simp [errW_none, errW_some] <;> rfl) | (simp [*, errW_none, errW_some] <;> rfl), by repeat (first | (with_reducible first | exact HB.out | apply below_alloc | apply pw_below_drewN | apply below_drew1) | exact HB.out)⟩
        · rw [if_neg c14] at H
          have c14b0 : decide (1048576 < t104) = false := decide_eq_false c14
          clear c14
          obtain rfl := Option.some.inj H
          go_wp2_with (first | ((with_reducible refine gate_callee (f := 20) rfl ?_); refine goesL_ (some 19) rfl rfl Tryd.func20 (by kernel_rfl) rfl #[.slice A0 l0.length c0] rfl (by (try simp only [List.map_toArray, List.map_cons, List.map_nil]); first | done | rfl | (simp only [List.length_drop, List.length_take]; rfl)) ?_; (with_reducible refine (op_In.calls k1 _ _ l0 t104 _ ?side1 ?side2 ?side3 A13.out).mono ?_); (case side1 => first | (with_reducible exact HG.out) | exact Glob.below HG.out (by repeat (first | (with_reducible first | exact HB.out | apply below_alloc | apply pw_below_drewN | apply below_drew1) | exact HB.out)) | exact Glob.drawn HG.out (by repeat (first | exact Drawn0.refl _ | apply Drawn0.step))); (case side2 => repeat (first | exact (Kd.C_below HR0.out HB.out) | (with_reducible refine Kd.C_alloc ?_ _) | (with_reducible refine Kd.C_drewN ?_ _) | (with_reducible refine Kd.C_drew ?_))); (case side3 => exact HC0.out); rintro e w16 ⟨rfl, hb⟩; refine ⟨_, rfl, ?_⟩; have n0_ := Aside0.mk (below_step (by repeat (first | (with_reducible first | exact HB.out | apply below_alloc | apply pw_below_drewN | apply below_drew1) | exact HB.out)) hb); clear HB; have HB := n0_; clear n0_; (try clear hb); (try clear hb2); (try clear hk); (try clear hi)))
          go_ret
          exact ⟨by first | rfl | (simp [errW_none, errW_some] <;> rfl) | (simp [*, errW_none, errW_some] <;> rfl), by repeat (first | (with_reducible first | exact HB.out | apply below_alloc | apply pw_below_drewN | apply below_drew1) | exact HB.out)⟩
end Go.Proofs.YtkgicpnnlkcaeaaDoor.F
end
section
namespace Go.Proofs.YtkgicpnnlkcaeaaDoor.F
open Go.RowKit Go.Proofs.YtkgicpnnlkcaeaaDoorW.PrintWords Go.Proofs.YtkgicpnnlkcaeaaDoorW.PrintLast Go.Proofs.YtkgicpnnlkcaeaaDoorW.PrintMore
set_option linter.unusedVariables false
set_option linter.unusedSimpArgs false
def addW0 (l : List S33) (kind n : Int) (text : ByteArray) : Option (List S33) :=
  if n = 0 ∧ text.toList = [] then some l
  else if 0 < l.length ∧ (rd_T33 l ((l.length : Int) - 1)).f0 = kind then
    (if (rd_T33 l ((l.length : Int) - 1)).f2.size + text.size ≤ 9223372036854775807 then
      some (l.set (l.length - 1) ⟨(rd_T33 l ((l.length : Int) - 1)).f0, wrap64 ((rd_T33 l ((l.length : Int) - 1)).f1 + n), (rd_T33 l ((l.length : Int) - 1)).f2 ++ text⟩) else none)
  else if l.length + 1 ≤ 4398046511104 then some (l ++ [⟨kind, n, text⟩]) else none
def addW (l : List S33) (kind n : Int) (text : ByteArray) : Option (List S33) := if l.length ≤ 4398046511104 then addW0 l kind n text else none
def But (w w' : World) (g : Nat) (row : Option Nat) : Prop := ∀ k, k < w.heap.size → k ≠ g → some k ≠ row → w'.heap[k]? = w.heap[k]?
theorem But.refl (w : World) (g : Nat) (row : Option Nat) : But w w g row := fun _ _ _ _ => rfl
def AddPost (ok : Nat → Prop) (w0 w : World) (g : Nat) (row : Option Nat) (l' : List S33) (e : Ending) (w' : World) : Prop := ∃ v' : Value, e = .returned (.tuple #[]) ∧
      w'.heap[g]? = some (.cells #[v'] 81 (0, 0)) ∧ Kd.R k33 33 w' w0.heap.size ok v' l' ∧ Below w0.heap.size w0 w' ∧ But w w' g row ∧ w.heap.size ≤ w'.heap.size
set_option maxHeartbeats 4000000 in
set_option maxRecDepth 100000 in
theorem writer_add.calls (g : Nat) (v : Value) (l l' : List S33) (a1 a2 : Int) (a3 : ByteArray) (ok : Nat → Prop) (w0 w : World)
    (hblk : w.heap[g]? = some (.cells #[v] 81 (0, 0))) (hg : w0.heap.size ≤ g) (ho : Kd.R k33 33 w w0.heap.size ok v l) (hok : ∀ k, ok k → k ≠ g) (hfr : ∀ k, w.heap.size ≤ k → ok k)
    (hB : Below w0.heap.size w0 w) (h : addW l a1 a2 a3 = some l') :
    Calls Tryd.prog 51 #[.pointer (some ⟨g, 0, none⟩), .int .i64 a1, .int .i64 a2, .string a3] w (AddPost ok w0 w g v.ownBlock l') := by
  obtain ⟨A, c, rfl⟩ := Kd.R_slice ho
  have HO := Aside0.mk ho
  have HB := Aside0.mk hB
  have HG := Aside0.mk hg
  have HK := Aside0.mk hok
  have HF := Aside0.mk hfr
  have BK := Aside0.mk hblk
  have hl : l.length ≤ 4398046511104 := by
    unfold addW at h
    split at h
    · assumption
    · cases h
  rw [addW, if_pos hl] at h
  have HL := Aside0.mk hl
  have hz0 : w.cell? ⟨g, 0, none⟩ = some (.slice A l.length c) := (blk_cell hblk 0).trans rfl
  have hf0 := blk_frozen hblk 0
  have hu := Tryd.underlying33
  unfold addW0 at h
  clear ho hB hg hok hfr hblk
  by_cases h1 : a2 = 0 ∧ a3.toList = []
  · rw [if_pos h1] at h
    obtain rfl := Option.some.inj h
    obtain ⟨h2, h3⟩ := h1
    have b1 : (a2 == 0) = true := by simp [h2]
    have b2 : a3.toList.isEmpty = true := by simp [h3]
    clear h h2
    go_enter Tryd.func51, Tryd.ntmps51
    go_wp2
    go_end0
    exact ⟨_, rfl, BK.out, HO.out, HB.out, But.refl _ _ _, Nat.le_refl _⟩
  · rw [if_neg h1] at h
    have t1 : (a2 == 0) = true → a3.toList.isEmpty = false := by
      intro e
      cases hh : a3.toList with
      | nil => exact absurd ⟨by simpa using e, hh⟩ h1
      | cons _ _ => rfl
    by_cases h2 : 0 < l.length ∧ (rd_T33 l ((l.length : Int) - 1)).f0 = a1
    · rw [if_pos h2] at h
      split at h
      · next hs =>
        have HLL := Aside0.mk (Option.some.inj h)
        clear h
        obtain ⟨hp, he⟩ := h2
        obtain ⟨m, hm⟩ : ∃ m, l.length = m + 1 := ⟨l.length - 1, by omega⟩
        have hw : ((l.length : Int) - 1) = ((m : Nat) : Int) := by omega
        rw [hw] at hs he
        obtain ⟨go, co, eo, gb, gl, cl, HGo⟩ := Kd.R_form HO.out hp
        injection eo with ea en ec
        subst ea
        subst ec
        obtain ⟨ce, hcl, hM, hcc, hfr⟩ := Kd.R_elem HO.out z33 (m : Int) (by omega) (by omega)
        obtain rfl := k33_openM hM
        have hgo : go ≠ g := by
          have := HK.out go (HO.out.1 go (by simp [Value.ownBlock]))
          exact this
        have hgo' : g ≠ go := fun e => hgo e.symm
        have hge : rd_T33 l (m : Int) = l.getD m z33 := by unfold rd_T33; rw [Int.toNat_natCast]
        have hx0 : w.cell? ⟨go, m * 3, none⟩ = some (.int .i64 (rd_T33 l (m : Int)).f0) := hcc 0 _ rfl
        have hx1 : w.cell? ⟨go, m * 3 + 1, none⟩ = some (.int .i64 (rd_T33 l (m : Int)).f1) := hcc 1 _ rfl
        have hx2 : w.cell? ⟨go, m * 3 + 2, none⟩ = some (.string (rd_T33 l (m : Int)).f2) := hcc 2 _ rfl
        have hfz1 : w.frozen? ⟨go, m * 3 + 1, none⟩ = false := hfr 1
        have hfz2 : w.frozen? ⟨go, m * 3 + 2, none⟩ = false := hfr 2
        -- the two stores
        have HP1 := Kd.R_seg HO.out (m : Int) (by omega) (by omega) (seg := [.int .i64 (wrap64 ((rd_T33 l (m : Int)).f1 + a2))]) (j := 1) hcl hcc (show 2 ≤ 3 from by decide)
          (x' := (⟨(rd_T33 l (m : Int)).f0, wrap64 ((rd_T33 l (m : Int)).f1 + a2), (rd_T33 l (m : Int)).f2⟩ : S33)) (k33_mkM _ _ _ (⟨(rd_T33 l (m : Int)).f0, wrap64 ((rd_T33 l (m : Int)).f1 + a2), (rd_T33 l (m : Int)).f2⟩ : S33)) (fun _ hk => hk)
        obtain ⟨HO1, HG1⟩ := HP1
        have hlen1 : (l.set (m : Int).toNat (⟨(rd_T33 l (m : Int)).f0, wrap64 ((rd_T33 l (m : Int)).f1 + a2), (rd_T33 l (m : Int)).f2⟩ : S33)).length = l.length := List.length_set
        obtain ⟨ce1, hcl1, hM1, hcc1, hfr1⟩ := Kd.R_elem HO1 z33 (m : Int) (by omega) (by omega)
        have hge1 : (l.set (m : Int).toNat (⟨(rd_T33 l (m : Int)).f0, wrap64 ((rd_T33 l (m : Int)).f1 + a2), (rd_T33 l (m : Int)).f2⟩ : S33)).getD (m : Int).toNat z33 = ⟨(rd_T33 l (m : Int)).f0, wrap64 ((rd_T33 l (m : Int)).f1 + a2), (rd_T33 l (m : Int)).f2⟩ := by
          rw [List.getD_eq_getElem?_getD, List.getElem?_set_self (by rw [Int.toNat_natCast]; omega)]
          rfl
        rw [hge1] at hM1
        obtain rfl := k33_openM hM1
        have HP2 := Kd.R_seg HO1 (m : Int) (by omega) (by omega) (seg := [.string ((rd_T33 l (m : Int)).f2 ++ a3)]) (j := 2) hcl1 hcc1 (show 3 ≤ 3 from by decide)
          (x' := (⟨(rd_T33 l (m : Int)).f0, wrap64 ((rd_T33 l (m : Int)).f1 + a2), (rd_T33 l (m : Int)).f2 ++ a3⟩ : S33)) (k33_mkM _ _ _ (⟨(rd_T33 l (m : Int)).f0, wrap64 ((rd_T33 l (m : Int)).f1 + a2), (rd_T33 l (m : Int)).f2 ++ a3⟩ : S33)) (fun _ hk => hk)
        obtain ⟨HO2, HG2⟩ := HP2
        have hx2' : (w.setCell ⟨go, m * 3 + 1, none⟩ (.int .i64 (wrap64 ((rd_T33 l (m : Int)).f1 + a2)))).cell? ⟨go, m * 3 + 2, none⟩ = some (.string (rd_T33 l (m : Int)).f2) := hcc1 2 _ rfl
        have hfz2' : (w.setCell ⟨go, m * 3 + 1, none⟩ (.int .i64 (wrap64 ((rd_T33 l (m : Int)).f1 + a2)))).frozen? ⟨go, m * 3 + 2, none⟩ = false := hfr1 2
        have bk1 : (w.setCell ⟨go, m * 3 + 1, none⟩ (.int .i64 (wrap64 ((rd_T33 l (m : Int)).f1 + a2)))).heap[g]? = some (.cells #[.slice (some ⟨go, 0, none⟩) l.length c] 81 (0, 0)) := (Below.heap_setCell w ⟨go, m * 3 + 1, none⟩ _ g hgo').trans BK.out
        have hz1 : (w.setCell ⟨go, m * 3 + 1, none⟩ (.int .i64 (wrap64 ((rd_T33 l (m : Int)).f1 + a2)))).cell? ⟨g, 0, none⟩ = some (.slice (some ⟨go, 0, none⟩) l.length c) := (blk_cell bk1 0).trans rfl
        have c1 : decide ((1 : Int) ≤ (l.length : Int)) = true := decide_eq_true (by omega)
        have c2 : decide ((0 : Int) ≤ (m : Int)) = true := decide_eq_true (by omega)
        have c3 : decide ((m : Int) < (l.length : Int)) = true := decide_eq_true (by omega)
        have c4 : ((rd_T33 l (m : Int)).f0 == a1) = true := by simp [he]
        have q1 : (m : Int) < (l.length : Int) := by omega
        have q2 : m < l.length := by omega
        have FIN : Aside0 (∀ w2 : World, w2 = (w.setCell ⟨go, m * 3 + 1, none⟩ (.int .i64 (wrap64 ((rd_T33 l (m : Int)).f1 + a2)))).setCell ⟨go, m * 3 + 2, none⟩ (.string ((rd_T33 l (m : Int)).f2 ++ a3)) →
            w2.heap[g]? = some (.cells #[.slice (some ⟨go, 0, none⟩) l.length c] 81 (0, 0)) ∧
            Kd.R k33 33 w2 w0.heap.size ok (.slice (some ⟨go, 0, none⟩) l.length c) l' ∧
            Below w0.heap.size w0 w2 ∧ But w w2 g (Value.slice (some ⟨go, 0, none⟩) l.length c).ownBlock ∧ w.heap.size ≤ w2.heap.size) := ⟨by
          intro w2 hw2
          have e1 : (l.set (m : Int).toNat (⟨(rd_T33 l (m : Int)).f0, wrap64 ((rd_T33 l (m : Int)).f1 + a2), (rd_T33 l (m : Int)).f2⟩ : S33)).set (m : Int).toNat (⟨(rd_T33 l (m : Int)).f0, wrap64 ((rd_T33 l (m : Int)).f1 + a2), (rd_T33 l (m : Int)).f2 ++ a3⟩ : S33) = l.set (l.length - 1) ⟨(rd_T33 l ((l.length : Int) - 1)).f0, wrap64 ((rd_T33 l ((l.length : Int) - 1)).f1 + a2), (rd_T33 l ((l.length : Int) - 1)).f2 ++ a3⟩ := by
            rw [List.set_set, hw, Int.toNat_natCast, show l.length - 1 = m by omega]
          rw [e1, HLL.out] at HO2
          subst hw2
          refine ⟨(Below.heap_setCell _ ⟨go, m * 3 + 2, none⟩ _ g hgo').trans bk1, HO2, ((HB.out.setCell gb _).setCell gb _), ?_, ?_⟩
          · intro k hk hkg hkr
            have hkgo : k ≠ go := fun e => hkr (by rw [e]; rfl)
            exact (Below.heap_setCell _ ⟨go, m * 3 + 2, none⟩ _ k hkgo).trans (Below.heap_setCell w ⟨go, m * 3 + 1, none⟩ _ k hkgo)
          · simp [World.setCell]⟩
        have hmb : (m : Int) ≤ 4398046511104 := by omega
        have t2 : a2 = 0 → a3.toList.isEmpty = false := fun e => t1 (by simp [e])
        clear HO1 HO2 HG1 HG2 hlen1 hcl1 hcc1 hfr1 hM1 hge1 hcl hcc hfr hM hge h1 bk1 HGo cl gl he hp hm hl HO HL
        by_cases z : a2 = 0
        · have b1 : (a2 == 0) = true := by simp [z]
          have b2 := t2 z
          clear t1 t2 z
          go_enter Tryd.func51, Tryd.ntmps51
          go_wp2
          go_end0
          have := FIN.out _ rfl
          exact ⟨_, rfl, this⟩
        · have b1 : (a2 == 0) = false := by simp [z]
          clear t1 t2 z
          go_enter Tryd.func51, Tryd.ntmps51
          go_wp2
          go_end0
          have := FIN.out _ rfl
          exact ⟨_, rfl, this⟩
      · cases h
    · rw [if_neg h2] at h
      split at h
      · next hs =>
        have HLL := Aside0.mk (Option.some.inj h)
        have HS := Aside0.mk hs
        have t2 : a2 = 0 → a3.toList.isEmpty = false := fun e => t1 (by simp [e])
        clear h t1 h1 hs
        by_cases h0 : l.length = 0
        · have hw : ((l.length : Int) - 1) = -1 := by omega
          clear h0 h2 hl HL
          by_cases z : a2 = 0
          · have b1 : (a2 == 0) = true := by simp [z]
            have b2 := t2 z
            clear t2 z
            go_enter Tryd.func51, Tryd.ntmps51
            go_wp2_with (first | ((with_reducible refine gate_builtin (b := .append) (xs := #[.tmp 19, .tmp 24]) rfl ?_); at_builtin; refine Kd.R_append k33 (w0 := w0) w0.heap.size rfl (.tmp 19) (.tmp 24) 34 33 (.agg #[.int .i64 0, .int .i64 0, .string ⟨#[]⟩]) 32 rfl Tryd.underlying34 info33 rfl (by decide) (by omega) _ l (⟨a1, a2, a3⟩ : S33) [.int .i64 a1, .int .i64 a2, .string a3] ok (fun _ => False) rfl rfl (k33_mkM _ _ _ (⟨a1, a2, a3⟩ : S33)) (fun _ hk => hk.elim) HF.out HO.out HB.out HB.out.size ?aL ?_; (case aL => have := HS.out; omega); intro v1 w1 ho1 hb1 hg1 hat1; obtain ⟨A1, c1_, e1_⟩ := Kd.R_slice ho1; subst e1_; simp only [List.length_append, List.length_cons, List.length_nil, Nat.zero_add] at ho1; have HO1 := Aside0.mk ho1; have HB1 := Aside0.mk hb1; have HG1 : Aside0 (w.grownBy w1 (Value.slice A l.length c).ownBlock) := Aside0.mk hg1; have bk1 := blk_grown BK.out hg1 (Kd.R_away HO.out HK.out); have hz1 := (blk_cell bk1 0).trans rfl; have hf1 := blk_frozen bk1 0; have BK1 := Aside0.mk bk1; clear ho1 hb1 hg1 hat1 bk1))
            go_end0
            refine ⟨.slice A1 (l.length + 1) c1_, rfl, ?_⟩
            rw [← HLL.out]
            refine ⟨blk_put BK1.out 0 _ rfl, Kd.R_far HO1.out HK.out _, HB1.out.setCell HG.out _, ?_, ?_⟩
            · intro k hk hkg hkr
              exact (Below.heap_setCell _ ⟨g, 0, none⟩ _ k hkg).trans (HG1.out.block k hk hkr)
            · have := HG1.out.size
              simpa [World.setCell] using this
          · have b1 : (a2 == 0) = false := by simp [z]
            clear t2 z
            go_enter Tryd.func51, Tryd.ntmps51
            go_wp2_with (first | ((with_reducible refine gate_builtin (b := .append) (xs := #[.tmp 19, .tmp 24]) rfl ?_); at_builtin; refine Kd.R_append k33 (w0 := w0) w0.heap.size rfl (.tmp 19) (.tmp 24) 34 33 (.agg #[.int .i64 0, .int .i64 0, .string ⟨#[]⟩]) 32 rfl Tryd.underlying34 info33 rfl (by decide) (by omega) _ l (⟨a1, a2, a3⟩ : S33) [.int .i64 a1, .int .i64 a2, .string a3] ok (fun _ => False) rfl rfl (k33_mkM _ _ _ (⟨a1, a2, a3⟩ : S33)) (fun _ hk => hk.elim) HF.out HO.out HB.out HB.out.size ?aL ?_; (case aL => have := HS.out; omega); intro v1 w1 ho1 hb1 hg1 hat1; obtain ⟨A1, c1_, e1_⟩ := Kd.R_slice ho1; subst e1_; simp only [List.length_append, List.length_cons, List.length_nil, Nat.zero_add] at ho1; have HO1 := Aside0.mk ho1; have HB1 := Aside0.mk hb1; have HG1 : Aside0 (w.grownBy w1 (Value.slice A l.length c).ownBlock) := Aside0.mk hg1; have bk1 := blk_grown BK.out hg1 (Kd.R_away HO.out HK.out); have hz1 := (blk_cell bk1 0).trans rfl; have hf1 := blk_frozen bk1 0; have BK1 := Aside0.mk bk1; clear ho1 hb1 hg1 hat1 bk1))
            go_end0
            refine ⟨.slice A1 (l.length + 1) c1_, rfl, ?_⟩
            rw [← HLL.out]
            refine ⟨blk_put BK1.out 0 _ rfl, Kd.R_far HO1.out HK.out _, HB1.out.setCell HG.out _, ?_, ?_⟩
            · intro k hk hkg hkr
              exact (Below.heap_setCell _ ⟨g, 0, none⟩ _ k hkg).trans (HG1.out.block k hk hkr)
            · have := HG1.out.size
              simpa [World.setCell] using this
        · have hp : 0 < l.length := by omega
          have he : ¬ (rd_T33 l ((l.length : Int) - 1)).f0 = a1 := fun e => h2 ⟨hp, e⟩
          obtain ⟨m, hm⟩ : ∃ m, l.length = m + 1 := ⟨l.length - 1, by omega⟩
          have hw : ((l.length : Int) - 1) = ((m : Nat) : Int) := by omega
          rw [hw] at he
          obtain ⟨go, co, eo, gb, gl, cl, HGo⟩ := Kd.R_form HO.out hp
          injection eo with ea en ec
          subst ea
          subst ec
          obtain ⟨ce, hcl, hM, hcc, hfr⟩ := Kd.R_elem HO.out z33 (m : Int) (by omega) (by omega)
          obtain rfl := k33_openM hM
          have hx0 : w.cell? ⟨go, m * 3, none⟩ = some (.int .i64 (rd_T33 l (m : Int)).f0) := hcc 0 _ rfl
          have c1 : decide ((1 : Int) ≤ (l.length : Int)) = true := decide_eq_true (by omega)
          have c2 : decide ((0 : Int) ≤ (m : Int)) = true := decide_eq_true (by omega)
          have c3 : decide ((m : Int) < (l.length : Int)) = true := decide_eq_true (by omega)
          have c4 : ((rd_T33 l (m : Int)).f0 == a1) = false := by simp [he]
          have q1 : (m : Int) < (l.length : Int) := by omega
          have q2 : m < l.length := by omega
          have hmb : (m : Int) ≤ 4398046511104 := by omega
          clear hcl hcc hfr hM HGo cl gl gb he hp hm h0 h2 hl HL
          by_cases z : a2 = 0
          · have b1 : (a2 == 0) = true := by simp [z]
            have b2 := t2 z
            clear t2 z
            go_enter Tryd.func51, Tryd.ntmps51
            go_wp2_with (first | ((with_reducible refine gate_builtin (b := .append) (xs := #[.tmp 19, .tmp 24]) rfl ?_); at_builtin; refine Kd.R_append k33 (w0 := w0) w0.heap.size rfl (.tmp 19) (.tmp 24) 34 33 (.agg #[.int .i64 0, .int .i64 0, .string ⟨#[]⟩]) 32 rfl Tryd.underlying34 info33 rfl (by decide) (by omega) _ l (⟨a1, a2, a3⟩ : S33) [.int .i64 a1, .int .i64 a2, .string a3] ok (fun _ => False) rfl rfl (k33_mkM _ _ _ (⟨a1, a2, a3⟩ : S33)) (fun _ hk => hk.elim) HF.out HO.out HB.out HB.out.size ?aL ?_; (case aL => have := HS.out; omega); intro v1 w1 ho1 hb1 hg1 hat1; obtain ⟨A1, c1_, e1_⟩ := Kd.R_slice ho1; subst e1_; simp only [List.length_append, List.length_cons, List.length_nil, Nat.zero_add] at ho1; have HO1 := Aside0.mk ho1; have HB1 := Aside0.mk hb1; have HG1 : Aside0 (w.grownBy w1 (Value.slice (some ⟨go, 0, none⟩) l.length c).ownBlock) := Aside0.mk hg1; have bk1 := blk_grown BK.out hg1 (Kd.R_away HO.out HK.out); have hz1 := (blk_cell bk1 0).trans rfl; have hf1 := blk_frozen bk1 0; have BK1 := Aside0.mk bk1; clear ho1 hb1 hg1 hat1 bk1))
            go_end0
            refine ⟨.slice A1 (l.length + 1) c1_, rfl, ?_⟩
            rw [← HLL.out]
            refine ⟨blk_put BK1.out 0 _ rfl, Kd.R_far HO1.out HK.out _, HB1.out.setCell HG.out _, ?_, ?_⟩
            · intro k hk hkg hkr
              exact (Below.heap_setCell _ ⟨g, 0, none⟩ _ k hkg).trans (HG1.out.block k hk hkr)
            · have := HG1.out.size
              simpa [World.setCell] using this
          · have b1 : (a2 == 0) = false := by simp [z]
            clear t2 z
            go_enter Tryd.func51, Tryd.ntmps51
            go_wp2_with (first | ((with_reducible refine gate_builtin (b := .append) (xs := #[.tmp 19, .tmp 24]) rfl ?_); at_builtin; refine Kd.R_append k33 (w0 := w0) w0.heap.size rfl (.tmp 19) (.tmp 24) 34 33 (.agg #[.int .i64 0, .int .i64 0, .string ⟨#[]⟩]) 32 rfl Tryd.underlying34 info33 rfl (by decide) (by omega) _ l (⟨a1, a2, a3⟩ : S33) [.int .i64 a1, .int .i64 a2, .string a3] ok (fun _ => False) rfl rfl (k33_mkM _ _ _ (⟨a1, a2, a3⟩ : S33)) (fun _ hk => hk.elim) HF.out HO.out HB.out HB.out.size ?aL ?_; (case aL => have := HS.out; omega); intro v1 w1 ho1 hb1 hg1 hat1; obtain ⟨A1, c1_, e1_⟩ := Kd.R_slice ho1; subst e1_; simp only [List.length_append, List.length_cons, List.length_nil, Nat.zero_add] at ho1; have HO1 := Aside0.mk ho1; have HB1 := Aside0.mk hb1; have HG1 : Aside0 (w.grownBy w1 (Value.slice (some ⟨go, 0, none⟩) l.length c).ownBlock) := Aside0.mk hg1; have bk1 := blk_grown BK.out hg1 (Kd.R_away HO.out HK.out); have hz1 := (blk_cell bk1 0).trans rfl; have hf1 := blk_frozen bk1 0; have BK1 := Aside0.mk bk1; clear ho1 hb1 hg1 hat1 bk1))
            go_end0
            refine ⟨.slice A1 (l.length + 1) c1_, rfl, ?_⟩
            rw [← HLL.out]
            refine ⟨blk_put BK1.out 0 _ rfl, Kd.R_far HO1.out HK.out _, HB1.out.setCell HG.out _, ?_, ?_⟩
            · intro k hk hkg hkr
              exact (Below.heap_setCell _ ⟨g, 0, none⟩ _ k hkg).trans (HG1.out.block k hk hkr)
            · have := HG1.out.size
              simpa [World.setCell] using this
      · cases h
def KindsMap (w : World) (b : Nat) : Prop :=
  ∃ (D : DataW Unit) (n : Nat), w.ownsMap Tryd.prog 4 (plainElem Tryd.prog 3) b n D ∧ Maps.IsMap D ∧ D.atKey (.bool false) (.lit (.int .i64 0)) = .lit (.int .i64 1) ∧ D.atKey (.bool true) (.lit (.int .i64 0)) = .lit (.int .i64 3)
theorem kinds_made (W : World) : ∃ w1 w2, (Instr.mapUpdate 82 (.map (some W.heap.size)) (.bool false) (.int .i64 1)).run Tryd.prog (W.alloc (.map #[] 0)) = .ok () w1 ∧
    (Instr.mapUpdate 82 (.map (some W.heap.size)) (.bool true) (.int .i64 3)).run Tryd.prog w1 = .ok () w2 ∧ KindsMap w2 W.heap.size ∧ W.grownBy w2 (some W.heap.size) ∧ W.heap.size < w2.heap.size := by
  have m0 : (W.alloc (.map #[] 0)).ownsMap Tryd.prog 4 (plainElem (H := Unit) Tryd.prog 3) W.heap.size 0 (.map []) := World.ownsMap_made _ _ _ _
  obtain ⟨w1, r1, o1, g1⟩ := m0.update (Maps.bool_keyed Tryd.underlying4) Tryd.underlying82 (by unfold maxLen; omega) (Maps.keyOf_bool_mk Tryd.underlying4 false) (plainElem_int Tryd.underlying3 (a := 1) (by decide))
  obtain ⟨w2, r2, o2, g2⟩ := o1.update (Maps.bool_keyed Tryd.underlying4) Tryd.underlying82 (by unfold maxLen; omega) (Maps.keyOf_bool_mk Tryd.underlying4 true) (plainElem_int Tryd.underlying3 (a := 3) (by decide))
  have i0 : Maps.IsMap (DataW.map [] : DataW Unit) := Maps.isMap_empty
  have hg : W.grownBy w2 (some W.heap.size) := ((World.grownBy_alloc W (.map #[] 0) (some W.heap.size)).trans g1).trans g2
  refine ⟨w1, w2, r1, r2, ⟨_, _, o2, (i0.put _ _).put _ _, ?_, ?_⟩, hg, o2.lt⟩
  · rw [Maps.atKey_put_other (by intro h; cases h), Maps.atKey_put_same i0 (by simp [WideAt.IsKeyLit])]
  · rw [Maps.atKey_put_same (i0.put _ _) (by simp [WideAt.IsKeyLit])]
theorem kinds_get {w : World} {b : Nat} (h : KindsMap w b) (x : Bool) : (Instr.lookup 82 (.map (some b)) (.bool x) false).run Tryd.prog w = .ok (.int .i64 (if x = true then 3 else 1)) w := by
  obtain ⟨D, n, ho, hm, hf, ht⟩ := h
  obtain ⟨c, hr, hc, _⟩ := ho.lookup_int (Maps.bool_keyed Tryd.underlying4) Tryd.underlying82 Tryd.underlying3 (by kernel_rfl) (Maps.keyOf_bool_mk Tryd.underlying4 x)
  cases x with
  | false => rw [hf] at hc; simp at hc; subst hc; exact hr
  | true => rw [ht] at hc; simp at hc; subst hc; exact hr
theorem kinds_kept {w w1 : World} {b : Nat} (h : KindsMap w b) (hb : w1.heap[b]? = w.heap[b]?) : KindsMap w1 b := by
  obtain ⟨D, n, ⟨es, clock, hh, F, hs, hD⟩, hm⟩ := h
  exact ⟨D, n, ⟨es, clock, hb.trans hh, F, hs, hD⟩, hm⟩
theorem kinds_lt {w : World} {b : Nat} (h : KindsMap w b) : b < w.heap.size := by
  obtain ⟨D, n, ho, _⟩ := h
  exact ho.lt
end Go.Proofs.YtkgicpnnlkcaeaaDoor.F
end
section
namespace Go.Proofs.YtkgicpnnlkcaeaaDoor.F
open Go.RowKit Go.Proofs.YtkgicpnnlkcaeaaDoorW.PrintWords Go.Proofs.YtkgicpnnlkcaeaaDoorW.PrintLast Go.Proofs.YtkgicpnnlkcaeaaDoorW.PrintMore
set_option linter.unusedVariables false
set_option linter.unusedSimpArgs false
def spansL : List ByteArray → List Bool → List S33 → Option (List S33 × Int)
  | [], _, out => some (out, 0)
  | s :: r, [], out => (points_Valid.f s).bind fun b => if b = true then (addW out 2 0 s).bind fun o1 => spansL r [] o1 else some ([], 3)
  | s :: r, g :: gs, out => (points_Valid.f s).bind fun b => if b = true then (addW out 2 0 s).bind fun o1 => (addW o1 (if g = true then 3 else 1) 1 ⟨#[]⟩).bind fun o2 => spansL r gs o2 else some ([], 3)
def gaps_Spans.f (l0 : List ByteArray) (l1 : List Bool) : Option (List S33 × Int) :=
  if l1.length ≤ 140737488355328 then
    (if l0.length = l1.length + 1 then (if l1.length ≤ 512 then spansL l0 l1 [] else some ([], 4)) else some ([], 5))
  else none
theorem size_alloc (w : World) (o : Obj) : (w.alloc o).heap.size = w.heap.size + 1 := by
  show (w.heap.push o).size = _
  exact Array.size_push _
theorem string_at {w : World} {A : Option Addr} {l : List ByteArray} (h : Kd.C Kd.string w A l.length l) (i : Nat) (hi : i < l.length) : ∃ ad, A = some ad ∧ w.cell? (ad.add i) = some (.string (l[i]'hi)) := by
  obtain ⟨ad, e, hx⟩ := Kd.at_string h (i : Int) (by omega) (by omega)
  refine ⟨ad, e, ?_⟩
  rw [Int.toNat_natCast] at hx
  rw [hx]
  unfold rdOf
  rw [Int.toNat_natCast, List.getD_eq_getElem?_getD, List.getElem?_eq_getElem hi]
  rfl
theorem bool_at {w : World} {A : Option Addr} {l : List Bool} (h : Kd.C Kd.bool w A l.length l) (i : Nat) (hi : i < l.length) : ∃ ad, A = some ad ∧ w.cell? (ad.add i) = some (.bool (l[i]'hi)) := by
  obtain ⟨ad, e, hx⟩ := Kd.at_bool h (i : Int) (by omega) (by omega)
  refine ⟨ad, e, ?_⟩
  rw [Int.toNat_natCast] at hx
  rw [hx]
  unfold rdOf
  rw [Int.toNat_natCast, List.getD_eq_getElem?_getD, List.getElem?_eq_getElem hi]
  rfl
def spOk (w : World) (k : Nat) : Prop := w.heap.size + 1 + 1 < k
structure SpSt (w wr : World) (s0 s1 v : Value) (out : List S33) : Prop where
  b : Below w.heap.size w wr
  x : wr.heap[w.heap.size]? = some (.cells #[s0, s1] 28 (0, 0))
  p : wr.heap[w.heap.size + 1]? = some (.cells #[v] 81 (0, 0))
  o : Kd.R k33 33 wr w.heap.size (spOk w) v out
  k : KindsMap wr (w.heap.size + 1 + 1)
theorem SpSt.below {w wr w3 : World} {s0 s1 v : Value} {out : List S33} (h : SpSt w wr s0 s1 v out) (hb : Below wr.heap.size wr w3) : SpSt w w3 s0 s1 v out :=
  ⟨below_step h.b hb, blk_below h.x hb, blk_below h.p hb, Kd.R_below h.o hb, kinds_kept h.k (hb.block _ (kinds_lt h.k))⟩
theorem SpSt.add {w wr w3 : World} {s0 s1 v : Value} {out o1 : List S33} {e : Ending} (h : SpSt w wr s0 s1 v out) (hp : AddPost (spOk w) w wr (w.heap.size + 1) v.ownBlock o1 e w3) : e = .returned (.tuple #[]) ∧ ∃ v', SpSt w w3 s0 s1 v' o1 := by
  obtain ⟨v', he, hx, ho, hb, hbut, hsz⟩ := hp
  have hk := kinds_lt h.k
  have own : ∀ k, some k = v.ownBlock → w.heap.size + 1 + 1 < k := fun k e => h.o.1 k e.symm
  exact ⟨he, v', hb, (hbut _ (by omega) (by omega) (fun e => by have := own _ e; omega)).trans h.x, hx, ho, kinds_kept h.k (hbut _ hk (by omega) (fun e => by have := own _ e; omega))⟩
set_option maxHeartbeats 8000000 in
set_option maxRecDepth 100000 in
theorem gaps_Spans_loop (A0 : Option Addr) (c0 : Nat) (l0 : List ByteArray) (A1 : Option Addr) (c1 : Nat) (l1 : List Bool) (r1 : List S33) (r2 : Int) (w : World)
    (hr0 : Kd.C Kd.string w A0 l0.length l0) (hr1 : Kd.C Kd.bool w A1 l1.length l1) (hG : Glob w) (hl : l0.length = l1.length + 1) (h5 : l1.length ≤ 512) (h : spansL l0 l1 [] = some (r1, r2)) :
    Calls Tryd.prog 30 #[.agg #[.slice A0 l0.length c0, .slice A1 l1.length c1]] w fun e w' => ∃ v0_ : Value, e = .returned (.tuple #[v0_, .int .i64 r2]) ∧ Kd.R k33 33 w' w.heap.size (fun _ => True) v0_ r1 ∧ Below w.heap.size w w' := by
  have HR0 := Aside0.mk hr0
  have HR1 := Aside0.mk hr1
  have HG := Aside0.mk hG
  have HL := Aside0.mk hl
  have H5 := Aside0.mk h5
  have H := Aside0.mk h
  have d0 : (((l0.length : Nat) : Int) != (l1.length : Int) + 1) = false := by simp; omega
  have d1 : decide ((512 : Int) < (l1.length : Int)) = false := decide_eq_false (by omega)
  have d2 : (l1.length : Int) ≤ 512 := by omega
  have hmm := @run_makeMap Tryd.prog
  obtain ⟨u1, u2, k1, k2, k3, k4, k5⟩ := kinds_made ((w.alloc (.cells #[.slice A0 l0.length c0, .slice A1 l1.length c1] 28)).alloc (.cells #[.slice none 0 0] 81))
  have esz : ((w.alloc (.cells #[.slice A0 l0.length c0, .slice A1 l1.length c1] 28)).alloc (.cells #[.slice none 0 0] 81)).heap.size = w.heap.size + 1 + 1 := by rw [size_alloc, size_alloc]
  rw [esz] at k1 k2 k3 k4 k5
  have b1 : ((w.alloc (.cells #[.slice A0 l0.length c0, .slice A1 l1.length c1] 28)).alloc (.cells #[.slice none 0 0] 81)).heap[w.heap.size]? = some (.cells #[.slice A0 l0.length c0, .slice A1 l1.length c1] 28 (0, 0)) := blk_alloc (blk_new w _) _
  have b2 : ((w.alloc (.cells #[.slice A0 l0.length c0, .slice A1 l1.length c1] 28)).alloc (.cells #[.slice none 0 0] 81)).heap[w.heap.size + 1]? = some (.cells #[.slice none 0 0] 81 (0, 0)) := by
    have := blk_new (w.alloc (.cells #[.slice A0 l0.length c0, .slice A1 l1.length c1] 28)) (.cells #[.slice none 0 0] 81)
    rwa [show (w.alloc (.cells #[.slice A0 l0.length c0, .slice A1 l1.length c1] 28)).heap.size = w.heap.size + 1 from size_alloc _ _] at this
  have BX := Aside0.mk ((k4.block w.heap.size (by omega) (by intro e; injection e with e; omega)).trans b1)
  have BW := Aside0.mk ((k4.block (w.heap.size + 1) (by omega) (by intro e; injection e with e; omega)).trans b2)
  have HB : Aside0 (Below w.heap.size w u2) := ⟨(below_alloc (below_alloc (Below.refl _ _) _) _).grown k4 (by rw [esz]; omega) (fun k e => by injection e with e; omega)⟩
  have KM := Aside0.mk k3
  have KS := Aside0.mk k5
  have cx0 : u2.cell? ⟨w.heap.size, 0, none⟩ = some (.slice A0 l0.length c0) := (blk_cell BX.out 0).trans rfl
  have cx1 : u2.cell? ⟨w.heap.size, 1, none⟩ = some (.slice A1 l1.length c1) := (blk_cell BX.out 1).trans rfl
  clear hr0 hr1 hG hl h5 h k3 k4 k5 esz b1 b2
  go_enter Tryd.func30, Tryd.ntmps30
  go_wp2
  clear cx0 cx1 d0 d1 k1 k2
  go_loopg [27] l0.length (fun kq v27 w' => ∃ (i : Nat) (out : List S33) (v : Value), v27 = .int .i64 i ∧ Aside0 (i ≤ l0.length) ∧ Aside0 (kq = l0.length - i) ∧ Aside0 (SpSt w w' (.slice A0 l0.length c0) (.slice A1 l1.length c1) v out) ∧ Aside0 (spansL (l0.drop i) (l1.drop i) out = some (r1, r2)))
  case atStart => exact ⟨0, [], .slice none 0 0, rfl, ⟨Nat.zero_le _⟩, ⟨rfl⟩, ⟨HB.out, BX.out, BW.out, Kd.R_nil _ _ _ _ _, KM.out⟩, H⟩
  case round =>
    clear HB BX BW KM KS H
    obtain ⟨i, out, v, rfl, HI, HK, ST, H⟩ := hrel
    have hdd : (i : Int) ≤ 513 := by have := HI.out; have := HL.out; omega
    have cx0 : wr.cell? ⟨w.heap.size, 0, none⟩ = some (.slice A0 l0.length c0) := (blk_cell ST.out.x 0).trans rfl
    have cx1 : wr.cell? ⟨w.heap.size, 1, none⟩ = some (.slice A1 l1.length c1) := (blk_cell ST.out.x 1).trans rfl
    by_cases hi : i < l0.length
    · obtain ⟨ad, e, hx⟩ := string_at HR0.out i hi
      cases e
      replace hx := glob_cell ST.out.b hx
      have h := H.out
      rw [List.drop_eq_getElem_cons hi] at h
      obtain ⟨s, hs⟩ : ∃ s, l0[i] = s := ⟨_, rfl⟩
      rw [hs] at h hx
      have GW := Aside0.mk (HG.out.below ST.out.b)
      have i1 : decide (i < l0.length) = true := decide_eq_true hi
      by_cases hj : i < l1.length
      · rw [List.drop_eq_getElem_cons hj] at h
        obtain ⟨ad2, e2, hy⟩ := bool_at HR1.out i hj
        cases e2
        obtain ⟨bb, hbb⟩ : ∃ bb, l1[i] = bb := ⟨_, rfl⟩
        rw [hbb] at h hy
        have HY := Aside0.mk hy
        have i2 : decide (i < l1.length) = true := decide_eq_true hj
        rw [spansL] at h
        obtain ⟨b, hb, h0⟩ := Option.bind_eq_some_iff.1 h
        clear h
        have HV := Aside0.mk hb
        cases b with
        | false =>
          obtain ⟨rfl, rfl⟩ : [] = r1 ∧ 3 = r2 := by simpa using h0
          clear h0 hb hs hbb hy hj
          go_wp2_with (go_at_call 48; (with_reducible refine (points_Valid.calls _ _ _ GW.out HV.out).mono ?_); rintro e w3 ⟨rfl, hb⟩; have ST3 := Aside0.mk (ST.out.below hb); clear hb)
          go_ret2
          exact ⟨_, rfl, Kd.R_nil _ _ _ _ _, ST3.out.b⟩
        | true =>
          rw [if_pos rfl] at h0
          obtain ⟨o1, ho1, h1⟩ := Option.bind_eq_some_iff.1 h0
          obtain ⟨o2, ho2, h2⟩ := Option.bind_eq_some_iff.1 h1
          obtain ⟨kd, hkd⟩ : ∃ kd : Int, (if bb = true then (3 : Int) else 1) = kd := ⟨_, rfl⟩
          rw [hkd] at ho2
          have HKD := Aside0.mk hkd
          have H1 := Aside0.mk ho1
          have H2 := Aside0.mk ho2
          have HN := Aside0.mk h2
          have HF : Aside0 (∀ w3 : World, KindsMap w3 (w.heap.size + 1 + 1) → ∀ k, w3.heap.size ≤ k → spOk w k) := ⟨fun w3 hk k hle => by have := kinds_lt hk; unfold spOk; omega⟩
          have HKG : Aside0 (∀ k, spOk w k → k ≠ w.heap.size + 1) := ⟨fun k hk => by unfold spOk at hk; omega⟩
          have HSZ : Aside0 (w.heap.size ≤ w.heap.size + 1) := ⟨by omega⟩
          have tok1 : True := trivial
          clear h0 h1 h2 hb hs hbb hy ho1 ho2 hkd
          go_wp2_with (first | (go_at_call 48; (with_reducible refine (points_Valid.calls _ _ _ GW.out HV.out).mono ?_); rintro e w3 ⟨rfl, hb⟩; have ST3 := Aside0.mk (ST.out.below hb); clear hb) | (go_at_call 51; have _t := tok1; (with_reducible refine (writer_add.calls _ v out o1 _ _ _ (spOk w) w _ ST3.out.p HSZ.out ST3.out.o HKG.out (HF.out _ ST3.out.k) ST3.out.b H1.out).mono ?_); intro e w4 hp; obtain ⟨rfl, v4, st4⟩ := ST3.out.add hp; have ST4 := Aside0.mk st4; have cy1 := (blk_cell st4.x 1).trans (show _ = some (Value.slice (some ad2) l1.length c1) from rfl); have hy4 := glob_cell st4.b HY.out; have kg := kinds_get st4.k bb; rw [HKD.out] at kg; clear hp st4 tok1 _t) | (go_at_call 51; (with_reducible refine (writer_add.calls _ v4 o1 o2 _ _ _ (spOk w) w _ ST4.out.p HSZ.out ST4.out.o HKG.out (HF.out _ ST4.out.k) ST4.out.b H2.out).mono ?_); intro e w5 hp; obtain ⟨rfl, v5, st5⟩ := ST4.out.add hp; have ST5 := Aside0.mk st5; clear hp st5))
          go_roundg (l0.length - (i + 1))
          case measure => have := HK.out; omega
          case rel => exact ⟨i + 1, o2, v5, by go_num, ⟨by omega⟩, ⟨rfl⟩, ST5, HN⟩
      · rw [List.drop_eq_nil_of_le (show l1.length ≤ i by omega)] at h
        have i2 : decide (i < l1.length) = false := decide_eq_false hj
        rw [spansL] at h
        obtain ⟨b, hb, h0⟩ := Option.bind_eq_some_iff.1 h
        clear h
        have HV := Aside0.mk hb
        cases b with
        | false =>
          obtain ⟨rfl, rfl⟩ : [] = r1 ∧ 3 = r2 := by simpa using h0
          clear h0 hb hs hj
          go_wp2_with (go_at_call 48; (with_reducible refine (points_Valid.calls _ _ _ GW.out HV.out).mono ?_); rintro e w3 ⟨rfl, hb⟩; have ST3 := Aside0.mk (ST.out.below hb); clear hb)
          go_ret2
          exact ⟨_, rfl, Kd.R_nil _ _ _ _ _, ST3.out.b⟩
        | true =>
          rw [if_pos rfl] at h0
          obtain ⟨o1, ho1, h1⟩ := Option.bind_eq_some_iff.1 h0
          have H1 := Aside0.mk ho1
          have HN : Aside0 (spansL (l0.drop (i + 1)) (l1.drop (i + 1)) o1 = some (r1, r2)) := ⟨by rw [List.drop_eq_nil_of_le (show l1.length ≤ i + 1 by omega)]; exact h1⟩
          have HF : Aside0 (∀ w3 : World, KindsMap w3 (w.heap.size + 1 + 1) → ∀ k, w3.heap.size ≤ k → spOk w k) := ⟨fun w3 hk k hle => by have := kinds_lt hk; unfold spOk; omega⟩
          have HKG : Aside0 (∀ k, spOk w k → k ≠ w.heap.size + 1) := ⟨fun k hk => by unfold spOk at hk; omega⟩
          have HSZ : Aside0 (w.heap.size ≤ w.heap.size + 1) := ⟨by omega⟩
          clear h0 h1 hb hs ho1 hj
          go_wp2_with (first | (go_at_call 48; (with_reducible refine (points_Valid.calls _ _ _ GW.out HV.out).mono ?_); rintro e w3 ⟨rfl, hb⟩; have ST3 := Aside0.mk (ST.out.below hb); clear hb) | (go_at_call 51; (with_reducible refine (writer_add.calls _ v out o1 _ _ _ (spOk w) w _ ST3.out.p HSZ.out ST3.out.o HKG.out (HF.out _ ST3.out.k) ST3.out.b H1.out).mono ?_); intro e w4 hp; obtain ⟨rfl, v4, st4⟩ := ST3.out.add hp; have ST4 := Aside0.mk st4; have cy1 := (blk_cell st4.x 1).trans (show _ = some (Value.slice A1 l1.length c1) from rfl); clear hp st4))
          go_roundg (l0.length - (i + 1))
          case measure => have := HK.out; omega
          case rel => exact ⟨i + 1, o1, v4, by go_num, ⟨by omega⟩, ⟨rfl⟩, ST4, HN⟩
    · have hl : l0.length ≤ i := by omega
      have h := H.out
      rw [List.drop_eq_nil_of_le hl] at h
      obtain ⟨rfl, rfl⟩ : out = r1 ∧ 0 = r2 := by simpa [spansL] using h
      have ho := ST.out.o
      obtain ⟨Av, cv, rfl⟩ := Kd.R_slice ho
      have HO := Aside0.mk ho
      have cw : wr.cell? ⟨w.heap.size + 1, 0, none⟩ = some (.slice Av out.length cv) := (blk_cell ST.out.p 0).trans rfl
      have i1 : decide (i < l0.length) = false := decide_eq_false (by omega)
      clear hl h hi cx0 cx1 ho
      go_wp2
      go_ret2
      exact ⟨_, rfl, Kd.R_mono HO.out (fun _ _ => trivial), ST.out.b⟩
set_option maxHeartbeats 4000000 in
theorem gaps_Spans.calls (A0_0 : Option Addr) (c0_0 : Nat) (l0_0 : List ByteArray) (A0_1 : Option Addr) (c0_1 : Nat) (l0_1 : List Bool) (r1 : List S33) (r2 : Int) (w : World) (hG : Glob w)
    (hr0_0 : Kd.C Kd.string w A0_0 l0_0.length l0_0) (hc0_0 : l0_0.length ≤ c0_0) (hr0_1 : Kd.C Kd.bool w A0_1 l0_1.length l0_1) (hc0_1 : l0_1.length ≤ c0_1) (h : gaps_Spans.f l0_0 l0_1 = some (r1, r2)) :
    Calls Tryd.prog 30 #[.agg #[.slice A0_0 l0_0.length c0_0, .slice A0_1 l0_1.length c0_1]] w fun e w' => ∃ v0_ : Value, e = .returned (.tuple #[v0_, .int .i64 r2]) ∧ Kd.R k33 33 w' w.heap.size (fun _ => True) v0_ r1 ∧ Below w.heap.size w w' := by
  unfold gaps_Spans.f at h
  split at h
  · next hb =>
    have hbi : (l0_1.length : Int) ≤ 140737488355328 := by omega
    split at h
    · next he =>
      split at h
      · next h5 => exact gaps_Spans_loop A0_0 c0_0 l0_0 A0_1 c0_1 l0_1 r1 r2 w hr0_0 hr0_1 hG he h5 h
      · next h5 =>
        obtain ⟨rfl, rfl⟩ : [] = r1 ∧ 4 = r2 := by simpa using h
        have d0 : (((l0_0.length : Nat) : Int) != (l0_1.length : Int) + 1) = false := by simp; omega
        have d1 : decide ((512 : Int) < (l0_1.length : Int)) = true := decide_eq_true (by omega)
        clear hr0_0 hc0_0 hr0_1 hc0_1 h hb he h5 hG
        go_enter Tryd.func30, Tryd.ntmps30
        go_wp2
        go_ret2
        exact ⟨_, rfl, Kd.R_nil _ _ _ _ _, below_alloc (Below.refl _ _) _⟩
    · next he =>
      obtain ⟨rfl, rfl⟩ : [] = r1 ∧ 5 = r2 := by simpa using h
      have d0 : (((l0_0.length : Nat) : Int) != (l0_1.length : Int) + 1) = true := by simp; omega
      clear hr0_0 hc0_0 hr0_1 hc0_1 h hb he hG
      go_enter Tryd.func30, Tryd.ntmps30
      go_wp2
      go_ret2
      exact ⟨_, rfl, Kd.R_nil _ _ _ _ _, below_alloc (Below.refl _ _) _⟩
  · cases h
end Go.Proofs.YtkgicpnnlkcaeaaDoor.F
end
section
namespace Go.Proofs.YtkgicpnnlkcaeaaDoor.F
open Go.RowKit Go.Proofs.YtkgicpnnlkcaeaaDoorW.PrintWords Go.Proofs.YtkgicpnnlkcaeaaDoorW.PrintLast Go.Proofs.YtkgicpnnlkcaeaaDoorW.PrintMore
set_option linter.unusedVariables false
set_option linter.unusedSimpArgs false
def fillG (g : List Bool) (at_ n : Nat) (b : Bool) : List Bool := g.take at_ ++ List.replicate n b ++ g.drop (at_ + n)
def gapsL : List S33 → Nat → List ByteArray → List Bool → Option (List ByteArray × List Bool)
  | [], _, p, g => some (p, g)
  | s :: r, a, p, g => if a + s.f1.toNat ≤ 512 ∧ (p.getD a ⟨#[]⟩).size + s.f2.size ≤ 9223372036854775807 then
      gapsL r (a + s.f1.toNat) (p.set a (p.getD a ⟨#[]⟩ ++ s.f2)) (fillG g a s.f1.toNat (s.f0 == 3)) else none
def gaps_Of.f (k : Nat) (l : List S33) : Option (List ByteArray × List Bool × Int) :=
  (op_May.f k l).bind fun e => if e = 0 then ((op_In.f k l).bind fun n => if n > 512 then some ([], [], 4) else if 0 ≤ n then
    ((gapsL l 0 (List.replicate 513 ⟨#[]⟩) (List.replicate 512 false)).bind fun r => some (r.1.take (n.toNat + 1), r.2.take n.toNat, 0)) else none)
  else some ([], [], e)
theorem slice_arrP (W : World) (g n : Nat) (h : n ≤ 513) : (Instr.sliceAt 70 (.pointer (some ⟨g, 0, none⟩)) none (some (.int .i64 (n : Int))) none).run Tryd.prog W = .ok (.slice (some ⟨g, 0, none⟩) n 513) W := by
  have hl : Tryd.prog.arrayLen 70 = 513 := by kernel_rfl
  have hs : (Go.sizeOf (Tryd.prog.elem 70)).run Tryd.prog W = .ok 1 W := by kernel_rfl
  rw [run_sliceAt_array_h W 70 _ (by kernel_rfl) .i64 n (by omega) (by rw [hl]; omega), hs, hl]
  simp [slicedAt, Addr.add]
theorem slice_arrG (W : World) (g n : Nat) (h : n ≤ 512) : (Instr.sliceAt 71 (.pointer (some ⟨g, 0, none⟩)) none (some (.int .i64 (n : Int))) none).run Tryd.prog W = .ok (.slice (some ⟨g, 0, none⟩) n 512) W := by
  have hl : Tryd.prog.arrayLen 71 = 512 := by kernel_rfl
  have hs : (Go.sizeOf (Tryd.prog.elem 71)).run Tryd.prog W = .ok 1 W := by kernel_rfl
  rw [run_sliceAt_array_h W 71 _ (by kernel_rfl) .i64 n (by omega) (by rw [hl]; omega), hs, hl]
  simp [slicedAt, Addr.add]
structure OfSt (w wr : World) (gR gP gG : Nat) (put : List ByteArray) (gone : List Bool) : Prop where
  b : Below w.heap.size w wr
  r : wr.heap[gR]? = some (.cells #[.slice none 0 0, .slice none 0 0] 28 (0, 0))
  p : wr.heap[gP]? = some (.cells (put.map Value.string).toArray 70 (0, 0))
  g : wr.heap[gG]? = some (.cells (gone.map Value.bool).toArray 71 (0, 0))
  lp : put.length = 513
  lg : gone.length = 512
  hR : w.heap.size ≤ gR
  hP : w.heap.size ≤ gP
  hG : w.heap.size ≤ gG
theorem OfSt.below {w wr w3 : World} {gR gP gG : Nat} {put : List ByteArray} {gone : List Bool} (h : OfSt w wr gR gP gG put gone) (hb : Below wr.heap.size wr w3) : OfSt w w3 gR gP gG put gone :=
  ⟨below_step h.b hb, blk_below h.r hb, blk_below h.p hb, blk_below h.g hb, h.lp, h.lg, h.hR, h.hP, h.hG⟩
theorem OfSt.pg {w wr : World} {gR gP gG : Nat} {put : List ByteArray} {gone : List Bool} (h : OfSt w wr gR gP gG put gone) : gP ≠ gG := blk_ne h.p h.g (by decide)
theorem OfSt.rp {w wr : World} {gR gP gG : Nat} {put : List ByteArray} {gone : List Bool} (h : OfSt w wr gR gP gG put gone) : gR ≠ gP := blk_ne h.r h.p (by decide)
theorem OfSt.rg {w wr : World} {gR gP gG : Nat} {put : List ByteArray} {gone : List Bool} (h : OfSt w wr gR gP gG put gone) : gR ≠ gG := blk_ne h.r h.g (by decide)
theorem OfSt.setP {w wr : World} {gR gP gG : Nat} {put : List ByteArray} {gone : List Bool} (h : OfSt w wr gR gP gG put gone) (i : Nat) (u : ByteArray) : OfSt w (wr.setCell ⟨gP, i, none⟩ (.string u)) gR gP gG (put.set i u) gone :=
  ⟨h.b.setCell h.hP _, (Below.heap_setCell wr ⟨gP, i, none⟩ _ gR h.rp).trans h.r, blk_put h.p i _ (by simp [List.map_set]), (Below.heap_setCell wr ⟨gP, i, none⟩ _ gG h.pg.symm).trans h.g, by rw [List.length_set]; exact h.lp, h.lg, h.hR, h.hP, h.hG⟩
theorem OfSt.setG {w wr : World} {gR gP gG : Nat} {put : List ByteArray} {gone : List Bool} (h : OfSt w wr gR gP gG put gone) (i : Nat) (u : Bool) : OfSt w (wr.setCell ⟨gG, i, none⟩ (.bool u)) gR gP gG put (gone.set i u) :=
  ⟨h.b.setCell h.hG _, (Below.heap_setCell wr ⟨gG, i, none⟩ _ gR h.rg).trans h.r, (Below.heap_setCell wr ⟨gG, i, none⟩ _ gP h.pg).trans h.p, blk_put h.g i _ (by simp [List.map_set]), h.lp, by rw [List.length_set]; exact h.lg, h.hR, h.hP, h.hG⟩
theorem OfSt.cellP {w wr : World} {gR gP gG : Nat} {put : List ByteArray} {gone : List Bool} (h : OfSt w wr gR gP gG put gone) (i : Nat) (hi : i < 513) : wr.cell? ⟨gP, i, none⟩ = some (.string (put.getD i ⟨#[]⟩)) := by
  rw [blk_cell h.p i, List.getElem?_toArray, List.getElem?_map, List.getD_eq_getElem?_getD, List.getElem?_eq_getElem (by rw [h.lp]; exact hi)]
  rfl
theorem OfSt.cellG {w wr : World} {gR gP gG : Nat} {put : List ByteArray} {gone : List Bool} (h : OfSt w wr gR gP gG put gone) (i : Nat) (hi : i < 512) : wr.cell? ⟨gG, i, none⟩ = some (.bool (gone.getD i false)) := by
  rw [blk_cell h.g i, List.getElem?_toArray, List.getElem?_map, List.getD_eq_getElem?_getD, List.getElem?_eq_getElem (by rw [h.lg]; exact hi)]
  rfl
theorem of_vP {w wr : World} {gP : Nat} {put : List ByteArray} (hp : wr.heap[gP]? = some (.cells (put.map Value.string).toArray 70 (0, 0))) (hlen : put.length = 513) (hle : w.heap.size ≤ gP) (n : Nat) (hn : n ≤ 513) :
    Kd.V Kd.string 9 wr w.heap.size (fun k_ => w.heap.size ≤ k_) (.slice (some ⟨gP, 0, none⟩) n 513) (put.take n) := by
  have hl : (put.take n).length = n := by rw [List.length_take, hlen]; omega
  refine ⟨some ⟨gP, 0, none⟩, 513, by rw [hl], by omega, fun W' hW => ?_⟩
  have hb := (hW gP hle (blk_lt hp)).trans hp
  refine Kd.C_of_reads (enc := Value.string) (d := (⟨#[]⟩ : ByteArray)) (h1 := fun _ => rfl) ⟨rfl, by omega, fun _ => ⟨_, rfl, fun j hj => ?_⟩⟩
  rw [hl] at hj
  rw [add_plain, blk_cell hb j, List.getElem?_toArray, List.getElem?_map, List.getElem?_eq_getElem (by rw [hlen]; omega), List.getD_eq_getElem?_getD, List.getElem?_take, if_pos hj, List.getElem?_eq_getElem (by rw [hlen]; omega)]
  rfl
theorem of_vG {w wr : World} {gG : Nat} {gone : List Bool} (hp : wr.heap[gG]? = some (.cells (gone.map Value.bool).toArray 71 (0, 0))) (hlen : gone.length = 512) (hle : w.heap.size ≤ gG) (n : Nat) (hn : n ≤ 512) :
    Kd.V Kd.bool 4 wr w.heap.size (fun k_ => w.heap.size ≤ k_) (.slice (some ⟨gG, 0, none⟩) n 512) (gone.take n) := by
  have hl : (gone.take n).length = n := by rw [List.length_take, hlen]; omega
  refine ⟨some ⟨gG, 0, none⟩, 512, by rw [hl], by omega, fun W' hW => ?_⟩
  have hb := (hW gG hle (blk_lt hp)).trans hp
  refine Kd.C_of_reads (enc := Value.bool) (d := false) (h1 := fun _ => rfl) ⟨rfl, by omega, fun _ => ⟨_, rfl, fun j hj => ?_⟩⟩
  rw [hl] at hj
  rw [add_plain, blk_cell hb j, List.getElem?_toArray, List.getElem?_map, List.getElem?_eq_getElem (by rw [hlen]; omega), List.getD_eq_getElem?_getD, List.getElem?_take, if_pos hj, List.getElem?_eq_getElem (by rw [hlen]; omega)]
  rfl
theorem fillG_zero (g : List Bool) (a : Nat) (b : Bool) : fillG g a 0 b = g := by unfold fillG; simp
theorem fillG_step (g : List Bool) (a n : Nat) (b : Bool) (h : a + n < g.length) : (fillG g a n b).set (a + n) b = fillG g a (n + 1) b := by
  unfold fillG
  have e1 : g.drop (a + n) = g[a + n] :: g.drop (a + (n + 1)) := by rw [List.drop_eq_getElem_cons h]; rfl
  have l1 : (g.take a ++ List.replicate n b).length = a + n := by simp; omega
  rw [e1, List.set_append_right _ _ (by omega), l1, Nat.sub_self, List.set_cons_zero, List.replicate_succ', List.append_assoc, List.append_assoc, List.append_assoc]
  rfl
set_option maxHeartbeats 8000000 in
set_option maxRecDepth 100000 in
theorem gaps_Of_loop (k : Nat) (A0 : Option Addr) (c0 : Nat) (l0 : List S33) (n : Nat) (put : List ByteArray) (gone : List Bool) (w : World) (hG : Glob w)
    (hr0 : Kd.C k33 w A0 l0.length l0) (hc0 : l0.length ≤ c0) (h1 : op_May.f k l0 = some 0) (h2 : op_In.f k l0 = some (n : Int)) (hn : n ≤ 512)
    (h : gapsL l0 0 (List.replicate 513 ⟨#[]⟩) (List.replicate 512 false) = some (put, gone)) :
    Calls Tryd.prog 17 #[.slice A0 l0.length c0] w fun e w' => ∃ v0_ v1_ : Value, e = .returned (.tuple #[.agg #[v0_, v1_], .int .i64 0]) ∧ Kd.V Kd.string 9 w' w.heap.size (fun k_ => w.heap.size ≤ k_) v0_ (put.take (n + 1)) ∧ Kd.V Kd.bool 4 w' w.heap.size (fun k_ => w.heap.size ≤ k_) v1_ (gone.take n) ∧ Below w.heap.size w w' := by
  have HG := Aside0.mk hG
  have HR0 := Aside0.mk hr0
  have HC0 := Aside0.mk hc0
  have H1 := Aside0.mk h1
  have H2 := Aside0.mk h2
  have H := Aside0.mk h
  have HN := Aside0.mk hn
  have HM : Aside0 (l0.length ≤ 9223372036854775807) := ⟨hr0.2.1⟩
  have d1 : decide ((512 : Int) < (n : Int)) = false := decide_eq_false (by omega)
  clear hG hr0 hc0 h1 h2 h hn
  go_enter Tryd.func17, Tryd.ntmps17
  go_wp2_with (first | (go_at_call 42; (with_reducible refine (op_May.calls k _ _ l0 0 _ (HG.out.below (below_alloc (Below.refl _ _) _)) (Kd.C_alloc HR0.out _) HC0.out H1.out).mono ?_); rintro e w1 ⟨rfl, hb⟩; have HB1 := Aside0.mk hb; clear hb) | (go_at_call 20; (with_reducible refine (op_In.calls k _ _ l0 (n : Int) _ (HG.out.below (below_step (below_alloc (Below.refl _ _) _) HB1.out)) (Kd.C_below (Kd.C_alloc HR0.out _) HB1.out) HC0.out H2.out).mono ?_); rintro e w2 ⟨rfl, hb⟩; have HB2 := Aside0.mk hb; clear hb))
  have HI0 : Aside0 (OfSt w ((w2.alloc (.cells Tryd.zeroCells70 70)).alloc (.cells Tryd.zeroCells71 71)) w.heap.size w2.heap.size (w2.heap.size + 1) (List.replicate 513 ⟨#[]⟩) (List.replicate 512 false)) := ⟨by
    have b1 : Below w.heap.size w w2 := below_step (below_step (below_alloc (Below.refl _ _) _) HB1.out) HB2.out
    have z1 : w.heap.size < w1.heap.size := by have := HB1.out.size; rw [size_alloc] at this; omega
    have z2 : w1.heap.size ≤ w2.heap.size := HB2.out.size
    refine ⟨below_alloc (below_alloc b1 _) _, blk_alloc (blk_alloc (blk_below (blk_below (blk_new w _) HB1.out) HB2.out) _) _, ?_, ?_, by simp, by simp, Nat.le_refl _, by omega, by omega⟩
    · have := blk_alloc (blk_new w2 (.cells Tryd.zeroCells70 70)) (.cells Tryd.zeroCells71 71)
      rw [this]
      exact congrArg (fun c => some (Obj.cells c 70 (0, 0))) (by kernel_rfl)
    · have := blk_new (w2.alloc (.cells Tryd.zeroCells70 70)) (.cells Tryd.zeroCells71 71)
      rw [size_alloc] at this
      rw [this]
      exact congrArg (fun c => some (Obj.cells c 71 (0, 0))) (by kernel_rfl)⟩
  generalize w2.heap.size + 1 = gG at HI0 ⊢
  generalize w2.heap.size = gP at HI0 ⊢
  go_loopg [8, 24] l0.length (fun kq v8 v24 w' => ∃ (i a : Nat) (p : List ByteArray) (g : List Bool), v8 = .int .i64 a ∧ v24 = .int .i64 i ∧ Aside0 (i ≤ l0.length) ∧ Aside0 (kq = l0.length - i) ∧ Aside0 (a ≤ 512) ∧ Aside0 (OfSt w w' w.heap.size gP gG p g) ∧ Aside0 (gapsL (l0.drop i) a p g = some (put, gone)))
  case atStart => exact ⟨0, 0, _, _, rfl, rfl, ⟨Nat.zero_le _⟩, ⟨rfl⟩, ⟨Nat.zero_le _⟩, HI0, H⟩
  case round =>
    clear HI0 H
    obtain ⟨i, a, p, g, rfl, rfl, HI, HK, HA, ST, H⟩ := hrel
    by_cases hi : i < l0.length
    · have h := H.out
      rw [List.drop_eq_getElem_cons hi, gapsL] at h
      split at h
      · next hc =>
        obtain ⟨hc1, hc2⟩ := hc
        obtain ⟨s, hs⟩ : ∃ s, l0[i] = s := ⟨_, rfl⟩
        rw [hs] at h hc1 hc2
        obtain ⟨ad, e, hx0, hx1, hx2⟩ := at_T33 (Kd.C_below HR0.out ST.out.b) (i : Int) (by omega) (by omega)
        cases e
        have hrd : rd_T33 l0 (i : Int) = s := by
          unfold rd_T33
          rw [Int.toNat_natCast, List.getD_eq_getElem?_getD, List.getElem?_eq_getElem hi]
          exact hs
        rw [hrd, Int.toNat_natCast] at hx0 hx1 hx2
        have HNX := Aside0.mk h
        have STA := Aside0.mk (ST.out.below (below_alloc (Below.refl _ _) (.cells #[.int .i64 s.f0, .int .i64 s.f1, .string s.f2] 33)))
        have cp := STA.out.cellP a (by have := HA.out; omega)
        have fp := blk_frozen STA.out.p a
        obtain ⟨pa, hpa⟩ : ∃ pa, p.getD a ⟨#[]⟩ = pa := ⟨_, rfl⟩
        rw [hpa] at cp hc2
        have HPA := Aside0.mk hpa
        clear hpa
        have cs2 : (wr.alloc (.cells #[.int .i64 s.f0, .int .i64 s.f1, .string s.f2] 33)).cell? ⟨wr.heap.size, 2, none⟩ = some (.string s.f2) := (blk_cell (blk_new wr _) 2).trans rfl
        have i1 : decide (i < l0.length) = true := decide_eq_true hi
        have a1 : (a : Int) < 513 := by have := HA.out; omega
        have a2 : a < 513 := by have := HA.out; omega
        have HMI : Aside0 ((i : Int) < 9223372036854775807) := ⟨by have := HM.out; omega⟩
        clear h hs hrd
        go_wp2
        go_region
        obtain ⟨bx, hbx⟩ : ∃ bx, wr.heap.size = bx := ⟨_, rfl⟩
        have BX0 : (wr.alloc (.cells #[.int .i64 s.f0, .int .i64 s.f1, .string s.f2] 33)).heap[bx]? = some (.cells #[.int .i64 s.f0, .int .i64 s.f1, .string s.f2] 33 (0, 0)) := hbx ▸ blk_new wr _
        have hne : bx ≠ gP := by have := blk_lt ST.out.p; omega
        have hneG : Aside0 (bx ≠ gG) := ⟨by have := blk_lt ST.out.g; omega⟩
        have STB : Aside0 (OfSt w (((wr.alloc (.cells #[.int .i64 s.f0, .int .i64 s.f1, .string s.f2] 33)).setCell ⟨gP, a, none⟩ (.string (pa ++ s.f2))).drew) w.heap.size gP gG (p.set a (pa ++ s.f2)) g) := ⟨(STA.out.setP a (pa ++ s.f2)).below (below_drew1 (Below.refl _ _))⟩
        have BX : Aside0 ((((wr.alloc (.cells #[.int .i64 s.f0, .int .i64 s.f1, .string s.f2] 33)).setCell ⟨gP, a, none⟩ (.string (pa ++ s.f2))).drew).heap[bx]? = some (.cells #[.int .i64 s.f0, .int .i64 s.f1, .string s.f2] 33 (0, 0))) := ⟨blk_drew ((Below.heap_setCell _ ⟨gP, a, none⟩ _ bx hne).trans BX0)⟩
        rw [hbx]
        clear hbx BX0 cp fp cs2 STA
        generalize (((wr.alloc (.cells #[.int .i64 s.f0, .int .i64 s.f1, .string s.f2] 33)).setCell ⟨gP, a, none⟩ (.string (pa ++ s.f2))).drew) = wb at STB BX ⊢
        have cn : wb.cell? ⟨bx, 1, none⟩ = some (.int .i64 s.f1) := (blk_cell BX.out 1).trans rfl
        have HA2 : Aside0 (a + s.f1.toNat ≤ 512) := ⟨hc1⟩
        have HLG : Aside0 (g.length = 512) := ⟨ST.out.lg⟩
        clear hx0 hx1 hx2 hc1 hc2 a1 a2 hne
        go_wp2
        go_loopg [8, 37] s.f1.toNat (fun kq v8 v37 w' => ∃ (j c : Nat), v8 = .int .i64 c ∧ v37 = .int .i64 j ∧ Aside0 (c = a + j) ∧ Aside0 (j ≤ s.f1.toNat) ∧ Aside0 (kq = s.f1.toNat - j) ∧ Aside0 (OfSt w w' w.heap.size gP gG (p.set a (pa ++ s.f2)) (fillG g a j (s.f0 == 3))) ∧ Aside0 (w'.heap[bx]? = some (.cells #[.int .i64 s.f0, .int .i64 s.f1, .string s.f2] 33 (0, 0))))
        case atStart => exact ⟨0, a, rfl, rfl, ⟨rfl⟩, ⟨Nat.zero_le _⟩, ⟨rfl⟩, ⟨by rw [fillG_zero]; exact STB.out⟩, BX⟩
        case round =>
          clear STB BX cn ST
          obtain ⟨j, c, rfl, rfl, HC, HJ, HKJ, ST, BX⟩ := hrel
          by_cases hj : j < s.f1.toNat
          · have hc5 : c < 512 := by have := HC.out; have := HA2.out; omega
            have hc5i : (c : Int) < 512 := by omega
            have t1 : decide ((j : Int) < s.f1) = true := decide_eq_true (by omega)
            have cn : wr.cell? ⟨bx, 0, none⟩ = some (.int .i64 s.f0) := (blk_cell BX.out 0).trans rfl
            have cg := ST.out.cellG c hc5
            have fg := blk_frozen ST.out.g c
            have jm : (j : Int) < 9223372036854775807 := by have := HA2.out; omega
            have ST2 : Aside0 (OfSt w (wr.setCell ⟨gG, c, none⟩ (.bool (s.f0 == 3))) w.heap.size gP gG (p.set a (pa ++ s.f2)) (fillG g a (j + 1) (s.f0 == 3))) := ⟨by
              have h2 := ST.out.setG c (s.f0 == 3)
              rw [HC.out, fillG_step g a j _ (by have := HLG.out; have := HA2.out; omega), ← HC.out] at h2
              exact h2⟩
            have BX2 : Aside0 ((wr.setCell ⟨gG, c, none⟩ (.bool (s.f0 == 3))).heap[bx]? = some (.cells #[.int .i64 s.f0, .int .i64 s.f1, .string s.f2] 33 (0, 0))) := ⟨(Below.heap_setCell _ ⟨gG, c, none⟩ _ bx hneG.out).trans BX.out⟩
            generalize (fillG g a j (s.f0 == 3)).getD c false = og at cg
            go_wp2
            go_roundg (s.f1.toNat - (j + 1))
            case measure => have := HKJ.out; omega
            case rel => exact ⟨j + 1, c + 1, by go_num, by go_num, ⟨by have := HC.out; omega⟩, ⟨by omega⟩, ⟨rfl⟩, ST2, BX2⟩
          · have t1 : decide ((j : Int) < s.f1) = false := decide_eq_false (by omega)
            have hje : j = s.f1.toNat := by have := HJ.out; omega
            have HC' : Aside0 (c = a + s.f1.toNat) := ⟨by rw [← hje]; exact HC.out⟩
            have STF : Aside0 (OfSt w wr w.heap.size gP gG (p.set a (pa ++ s.f2)) (fillG g a s.f1.toNat (s.f0 == 3))) := ⟨by rw [← hje]; exact ST.out⟩
            have im := HMI.out
            clear hje hj
            go_wp2
            go_roundg (l0.length - (i + 1))
            case measure => have := HK.out; omega
            case rel => exact ⟨i + 1, c, _, _, rfl, by go_num, ⟨by omega⟩, ⟨rfl⟩, ⟨by have := HC'.out; have := HA2.out; omega⟩, STF, ⟨by have := HNX.out; rw [HPA.out] at this; rw [HC'.out]; exact this⟩⟩
      · cases h
    · have hl : l0.length ≤ i := by omega
      have h := H.out
      rw [List.drop_eq_nil_of_le hl] at h
      obtain ⟨rfl, rfl⟩ : p = put ∧ g = gone := by simpa [gapsL] using h
      have i1 : decide (i < l0.length) = false := decide_eq_false hi
      have n1 : n ≤ 512 := HN.out
      have n2 : (n : Int) ≤ 512 := by omega
      have n3 : (n : Int) + 1 ≤ 513 := by omega
      have cr0 : wr.cell? ⟨w.heap.size, 0, none⟩ = some (.slice none 0 0) := (blk_cell ST.out.r 0).trans rfl
      have cr1 : wr.cell? ⟨w.heap.size, 1, none⟩ = some (.slice none 0 0) := (blk_cell ST.out.r 1).trans rfl
      have fr0 := blk_frozen ST.out.r 0
      have fr1 := blk_frozen ST.out.r 1
      have sP : ∀ W, (Instr.sliceAt 70 (.pointer (some ⟨gP, 0, none⟩)) none (some (.int .i64 ((n : Int) + 1))) none).run Tryd.prog W = .ok (.slice (some ⟨gP, 0, none⟩) (n + 1) 513) W := fun W => by
        have := slice_arrP W gP (n + 1) (by omega)
        rwa [show ((n + 1 : Nat) : Int) = (n : Int) + 1 by omega] at this
      have sG := fun W => slice_arrG W gG n (by omega)
      clear h hl hi
      go_wp2
      go_region
      go_wp2
      refine bodyPost_ret (results_ct rfl _ _ w.heap.size 28 #[.slice (some ⟨gP, 0, none⟩) (n + 1) 513, .slice (some ⟨gG, 0, none⟩) n 512] (0, 0) _ rfl (by refine blk_drew ?_; refine blk_put (cs := #[.slice (some ⟨gP, 0, none⟩) (n + 1) 513, .slice none 0 0]) ?_ 1 _ rfl; exact blk_put (cs := #[.slice none 0 0, .slice none 0 0]) ST.out.r 0 _ rfl) Tryd.underlying28 rfl (by kernel_rfl)) rfl ?_
      have hne1 := ST.out.rp
      have hne2 := ST.out.rg
      refine ⟨_, _, rfl, of_vP (blk_drew ((Below.heap_setCell _ ⟨w.heap.size, 1, none⟩ _ gP hne1.symm).trans ((Below.heap_setCell _ ⟨w.heap.size, 0, none⟩ _ gP hne1.symm).trans ST.out.p))) ST.out.lp ST.out.hP (n + 1) (by omega),
        of_vG (blk_drew ((Below.heap_setCell _ ⟨w.heap.size, 1, none⟩ _ gG hne2.symm).trans ((Below.heap_setCell _ ⟨w.heap.size, 0, none⟩ _ gG hne2.symm).trans ST.out.g))) ST.out.lg ST.out.hG n (by omega), ?_⟩
      exact below_drew1 (below_set (below_set ST.out.b (Nat.le_refl _)) (Nat.le_refl _))
set_option maxHeartbeats 8000000 in
set_option maxRecDepth 100000 in
theorem gaps_Of.calls (k : Nat) (A0 : Option Addr) (c0 : Nat) (l0 : List S33) (r1 : List ByteArray) (r2 : List Bool) (r3 : Int) (w : World) (hG : Glob w) (hr0 : Kd.C k33 w A0 l0.length l0) (hc0 : l0.length ≤ c0) (h : gaps_Of.f k l0 = some (r1, r2, r3)) :
    Calls Tryd.prog 17 #[.slice A0 l0.length c0] w fun e w' => ∃ v0_ v1_ : Value, e = .returned (.tuple #[.agg #[v0_, v1_], .int .i64 r3]) ∧ Kd.V Kd.string 9 w' w.heap.size (fun k_ => w.heap.size ≤ k_) v0_ r1 ∧ Kd.V Kd.bool 4 w' w.heap.size (fun k_ => w.heap.size ≤ k_) v1_ r2 ∧ Below w.heap.size w w' := by
  unfold gaps_Of.f at h
  obtain ⟨e, h1, h⟩ := Option.bind_eq_some_iff.1 h
  split at h
  · next he =>
    subst he
    obtain ⟨n, h2, h⟩ := Option.bind_eq_some_iff.1 h
    split at h
    · next hn =>
      obtain ⟨rfl, rfl, rfl⟩ : [] = r1 ∧ [] = r2 ∧ 4 = r3 := by simpa using h
      have HG := Aside0.mk hG
      have HR0 := Aside0.mk hr0
      have HC0 := Aside0.mk hc0
      have H1 := Aside0.mk h1
      have H2 := Aside0.mk h2
      have d1 : decide ((512 : Int) < n) = true := decide_eq_true hn
      clear hG hr0 hc0 h1 h2 h hn
      go_enter Tryd.func17, Tryd.ntmps17
      go_wp2_with (first | (go_at_call 42; (with_reducible refine (op_May.calls k _ _ l0 0 _ (HG.out.below (below_alloc (Below.refl _ _) _)) (Kd.C_alloc HR0.out _) HC0.out H1.out).mono ?_); rintro e w1 ⟨rfl, hb⟩; have HB1 := Aside0.mk hb; clear hb) | (go_at_call 20; (with_reducible refine (op_In.calls k _ _ l0 n _ (HG.out.below (below_step (below_alloc (Below.refl _ _) _) HB1.out)) (Kd.C_below (Kd.C_alloc HR0.out _) HB1.out) HC0.out H2.out).mono ?_); rintro e w2 ⟨rfl, hb⟩; have HB2 := Aside0.mk hb; have bk := blk_below (blk_below (blk_new w (.cells #[.slice none 0 0, .slice none 0 0] 28)) HB1.out) hb; have cr0 : w2.cell? ⟨w.heap.size, 0, none⟩ = some (.slice none 0 0) := (blk_cell bk 0).trans rfl; have cr1 : w2.cell? ⟨w.heap.size, 1, none⟩ = some (.slice none 0 0) := (blk_cell bk 1).trans rfl; have fr0 := blk_frozen bk 0; have fr1 := blk_frozen bk 1; have BK := Aside0.mk bk; clear hb bk))
      refine bodyPost_ret (results_ct rfl _ _ w.heap.size 28 #[.slice none 0 0, .slice none 0 0] (0, 0) _ rfl (by refine blk_put (cs := #[.slice none 0 0, .slice none 0 0]) ?_ 1 _ rfl; exact blk_put (cs := #[.slice none 0 0, .slice none 0 0]) BK.out 0 _ rfl) Tryd.underlying28 rfl (by kernel_rfl)) rfl ?_
      exact ⟨_, _, rfl, Kd.V_nil _ _ _ _ _, Kd.V_nil _ _ _ _ _, below_set (below_set (below_step (below_step (below_alloc (Below.refl _ _) _) HB1.out) HB2.out) (Nat.le_refl _)) (Nat.le_refl _)⟩
    · next hn =>
      split at h
      · next h0 =>
        obtain ⟨⟨p, g⟩, h3, h4⟩ := Option.bind_eq_some_iff.1 h
        obtain ⟨m, rfl⟩ := Int.eq_ofNat_of_zero_le h0
        obtain ⟨rfl, rfl, rfl⟩ : p.take (m + 1) = r1 ∧ g.take m = r2 ∧ 0 = r3 := by simpa using h4
        exact gaps_Of_loop k A0 c0 l0 m p g w hG hr0 hc0 h1 h2 (by omega) h3
      · cases h
  · next he =>
    obtain ⟨rfl, rfl, rfl⟩ : [] = r1 ∧ [] = r2 ∧ e = r3 := by simpa using h
    have HG := Aside0.mk hG
    have HR0 := Aside0.mk hr0
    have HC0 := Aside0.mk hc0
    have H1 := Aside0.mk h1
    have d1 : (e != 0) = true := by simp [he]
    clear hG hr0 hc0 h1 h he
    go_enter Tryd.func17, Tryd.ntmps17
    go_wp2_with (go_at_call 42; (with_reducible refine (op_May.calls k _ _ l0 e _ (HG.out.below (below_alloc (Below.refl _ _) _)) (Kd.C_alloc HR0.out _) HC0.out H1.out).mono ?_); rintro e2 w1 ⟨rfl, hb⟩; have bk := blk_below (blk_new w (.cells #[.slice none 0 0, .slice none 0 0] 28)) hb; have cr0 : w1.cell? ⟨w.heap.size, 0, none⟩ = some (.slice none 0 0) := (blk_cell bk 0).trans rfl; have cr1 : w1.cell? ⟨w.heap.size, 1, none⟩ = some (.slice none 0 0) := (blk_cell bk 1).trans rfl; have fr0 := blk_frozen bk 0; have fr1 := blk_frozen bk 1; have BK := Aside0.mk bk; have HB1 := Aside0.mk hb; clear hb bk)
    refine bodyPost_ret (results_ct rfl _ _ w.heap.size 28 #[.slice none 0 0, .slice none 0 0] (0, 0) _ rfl (by refine blk_put (cs := #[.slice none 0 0, .slice none 0 0]) ?_ 1 _ rfl; exact blk_put (cs := #[.slice none 0 0, .slice none 0 0]) BK.out 0 _ rfl) Tryd.underlying28 rfl (by kernel_rfl)) rfl ?_
    exact ⟨_, _, rfl, Kd.V_nil _ _ _ _ _, Kd.V_nil _ _ _ _ _, below_set (below_set (below_step (below_alloc (Below.refl _ _) _) HB1.out) (Nat.le_refl _)) (Nat.le_refl _)⟩
end Go.Proofs.YtkgicpnnlkcaeaaDoor.F
end
