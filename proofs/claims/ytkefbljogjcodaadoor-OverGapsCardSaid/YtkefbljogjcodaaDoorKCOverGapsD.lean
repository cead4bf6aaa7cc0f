import Derived.Test.YtkefbljogjcodaaDoorKCOverGapsC
import Derived.Below
import Derived.Deep.Draws
import Derived.Deep.AppendLies
import Derived.Maps.AppendAt
import Derived.OwnWalk
import Derived.Laws.BytesArg
import Derived.Laws.MakeOwn
import Derived.Laws.OwnMore
import Derived.Deep.OwnRows
import Derived.Tactics
import Derived.Lib.ConvBytes
import Derived.Laws.Slices
import Derived.WalkKit
import Derived.KernelRfl
import Derived.RowKit3
import Derived.Deep.LoopGhost
import Derived.Deep.QuietTactic
import Derived.BigQuiet
import Derived.WideLaws
import Derived.Deep.DeepCutAuto
import Derived.Deep.CutBlock
import Derived.Deep.RegionHeld3
import Derived.Laws.Rows
import Derived.Lib.AppendStr
import Derived.ArgAppend
import Derived.Laws.IdiomCopy
import Derived.RowKit
import Derived.OrdersHeld
import Derived.Laws.BitsLemmas
import Derived.Laws.StructEq
import Derived.Test.YtkefbljogjcodaaDoorProg
import Derived.Handy
import Derived.Shelf.Unicode.DecodeSlow
import Derived.Ground.NamesProg
import Derived.Shelf.Unicode.ValidAny
import Derived.Laws.RangeString
import Derived.Laws.RangeAny
import Derived.Lib.RuneCount
import Derived.Laws.IdiomStrings
import Derived.Laws.Cover4
import Derived.Great.BuildSlice
import Derived.Defers
import Derived.RangeFuncNested
import Derived.RangeFuncBound
import Derived.RangeFuncCalls
import Derived.RangeFuncLeaves
import Derived.Shelf.Abstract
import Derived.Shelf.RegionOpen
import Derived.OwnWalkIn
import Derived.TacticsInMore
import Derived.LoopNIn
import Derived.LoopIn
section
namespace Go.Proofs.YtkefbljogjcodaaDoor.F
open Go.RowKit Go.Proofs.YtkefbljogjcodaaDoorW.PrintWords Go.Proofs.YtkefbljogjcodaaDoorW.PrintLast Go.Proofs.YtkefbljogjcodaaDoorW.PrintMore
set_option linter.unusedVariables false
set_option linter.unusedSimpArgs false
open Go.Shelf
attribute [local go_sem] Oper.semAt_some max2_int min2_int max_two min_two
def inS (s : S26) : Int := (span_In.f s.f0 s.f1 s.f2).getD 0
def outS (s : S26) : Int := (span_Out.f s.f0 s.f1 s.f2).getD 0
def stepsOk (l : List S26) : Bool := l.all fun s => (span_In.f s.f0 s.f1 s.f2).isSome && (span_Out.f s.f0 s.f1 s.f2).isSome
structure St where
  s : S26
  i : Int
  o : Int
  h : (span_Out.f s.f0 s.f1 s.f2).isSome = true
theorem zero_out : (span_Out.f 0 0 ⟨#[]⟩).isSome = true := by simp [span_Out.f, span_of.f]
def stepsL : List S26 → Int → Int → List St
  | [], i, o => [⟨⟨0, 0, ⟨#[]⟩⟩, i, o, zero_out⟩]
  | s :: r, i, o => if h : (span_Out.f s.f0 s.f1 s.f2).isSome = true then ⟨s, i, o, h⟩ :: stepsL r (wrap64 (i + inS s)) (wrap64 (o + outS s)) else []
def encSt (x : St) : Value := .agg #[.int .i64 x.s.f0, .int .i64 x.s.f1, .string x.s.f2, .int .i64 x.i, .int .i64 x.o]
structure KpS (n m : Nat) (W W' : World) : Prop where
  b : Below n W W'
  c : ∀ (k : Nat) (o : Obj), m ≤ k → W.heap[k]? = some o → o.isCells = true → W'.heap[k]? = some o
theorem KpS.refl (n m : Nat) (W : World) : KpS n m W W := ⟨Below.refl _ _, fun _ _ _ h _ => h⟩
theorem KpS.trans {n m : Nat} {A B C : World} (h : KpS n m A B) (k : KpS n m B C) : KpS n m A C := ⟨h.b.trans k.b, fun i o hm hi ho => k.c i o hm (h.c i o hm hi ho) ho⟩
theorem KpS.put {n m : Nat} {w : World} (hn : n ≤ w.heap.size) (W : World) (l : Nat) (o o' : Obj) (hl : w.heap.size ≤ l) (h : W.heap[l]? = some o) (hc : o.isCells = false) (hw : o.isWalk = false) : KpS n m W (W.putObj l o') :=
  ⟨belowK_b hn W l o o' hl h hc hw, fun k p _ hk hp => by
    by_cases e : k = l
    · subst e; rw [h] at hk; cases hk; rw [hc] at hp; cases hp
    · exact (World.putObj_heap_other e).trans hk⟩
theorem KpS.set {n m : Nat} (W : World) (b : Nat) (v : Value) (hn : n ≤ b) (hm : b < m) : KpS n m W (W.setCell ⟨b, 0, none⟩ v) :=
  ⟨(Below.refl _ W).setCell (p := ⟨b, 0, none⟩) hn v, fun k o hk h _ => (Below.heap_setCell W ⟨b, 0, none⟩ v k (by show k ≠ b; omega)).trans h⟩
theorem KpS.more {n m : Nat} {W W' : World} (h : Below W.heap.size W W') (hn : n ≤ W.heap.size) : KpS n m W W' :=
  ⟨h.mono hn, fun k o _ hk _ => (h.block k (Array.getElem?_eq_some_iff.1 hk).1).trans hk⟩
theorem grown_of_below {W W' : World} (h : Below W.heap.size W W') : W.grownBy W' none := ⟨h.os, h.tape, h.output, h.size, fun k hk _ => h.block k hk⟩
theorem abides_more {β : Type} {B : Nat} {J : β → World → Prop} (hJ : AbidesFrom B J) {s : β} {W W' : World} (h : J s W) (hb : Below W.heap.size W W') : J s W' := hJ s W W' none h (grown_of_below hb) (fun r e => by cases e)
theorem some_in {s : S26} (h : (span_In.f s.f0 s.f1 s.f2).isSome = true) : span_In.f s.f0 s.f1 s.f2 = some (inS s) := by
  unfold inS
  cases hh : span_In.f s.f0 s.f1 s.f2 with
  | none => rw [hh] at h; cases h
  | some v => rfl
theorem some_out {s : S26} (h : (span_Out.f s.f0 s.f1 s.f2).isSome = true) : span_Out.f s.f0 s.f1 s.f2 = some (outS s) := by
  unfold outS
  cases hh : span_Out.f s.f0 s.f1 s.f2 with
  | none => rw [hh] at h; cases h
  | some v => rfl
theorem stepsOk_at {l pre r : List S26} {s : S26} (h : stepsOk l = true) (e : l = pre ++ s :: r) : span_In.f s.f0 s.f1 s.f2 = some (inS s) ∧ span_Out.f s.f0 s.f1 s.f2 = some (outS s) := by
  have := List.all_eq_true.1 h s (by rw [e]; simp)
  rw [Bool.and_eq_true] at this
  exact ⟨some_in this.1, some_out this.2⟩
set_option maxRecDepth 100000 in
set_option maxHeartbeats 4000000 in
theorem steps1_in (n l Bs n₀ m : Nat) (hn : 1 ≤ n) (A0 : Option Addr) (c0 : Nat) (l0 : List S26) (w : World) (hn₀ : n₀ = w.heap.size) (hG : Glob w) (hr0 : Kd.C k26 w A0 l0.length l0) (hok : stepsOk l0 = true) (J Jx : List St → World → Prop)
    (hY : ∀ pre x W, J pre W → pre.length < l0.length + 1 → YieldAt Fence.wide (n - 1) Tryd.prog l #[encSt x] W fun e W' =>
      (e = .returned (.bool true) ∧ J (pre ++ [x]) W' ∧ KpS n₀ m W W') ∨ (e = .returned (.bool false) ∧ Jx (pre ++ [x]) W'))
    (W : World) (hJ : AbidesFrom W.heap.size J) (hm : m ≤ W.heap.size)
    (hB : Below n₀ w W) (hBs : W.cell? ⟨Bs, 0, none⟩ = some (.slice A0 l0.length c0)) (h0 : J [] W) :
    CallsIn Fence.wide n Tryd.prog 87 #[.func (.yield l) #[] #[], .pointer (some ⟨Bs, 0, none⟩)] W fun e W' => (∃ v, e = .returned v) ∧
      ((∃ ys, ys = stepsL l0 0 0 ∧ J ys W') ∨ (∃ pre, pre <+: stepsL l0 0 0 ∧ Jx pre W')) := by
  subst hn₀
  have HG := Aside0.mk hG
  have HR0 := Aside0.mk hr0
  have HY := Aside0.mk hY
  have HB := Aside0.mk hB
  have HJ := Aside0.mk hJ
  have H0 := Aside0.mk h0
  have HOK := Aside0.mk hok
  have HM : Aside0 (l0.length ≤ 9223372036854775807) := ⟨hr0.2.1⟩
  have HMM := Aside0.mk hm
  clear hG hr0 hY hB hJ h0 hok hm
  refine callsIn_of_wp Tryd.func87 rfl trivial ?_ rfl
  simp only [Tryd.ntmps87, List.size_toArray, List.length_cons, List.length_nil, Nat.reduceAdd, Nat.reduceSub, Array.replicate_succ, Array.replicate_zero, List.push_toArray, List.append_toArray, List.nil_append, List.cons_append]
  gi_wp2
  gi_loopw [3, 4, 9] (fun v3 v4 v9 wr => ∃ (done rest : List S26) (i o : Int), v3 = .int .i64 i ∧ v4 = .int .i64 o ∧ v9 = .int .i64 (done.length : Int) ∧ Aside0 (l0 = done ++ rest) ∧
    Aside0 (∃ pre, stepsL l0 0 0 = pre ++ stepsL rest i o ∧ pre.length = done.length ∧ J pre wr) ∧ Aside0 (Below w.heap.size w wr) ∧ Aside0 (W.heap.size ≤ wr.heap.size)) (fun _ _ v9 _ => l0.length - (intOf v9).toNat)
  case atStart => exact ⟨[], l0, 0, 0, rfl, rfl, rfl, ⟨rfl⟩, ⟨[], rfl, rfl, H0.out⟩, HB, ⟨Nat.le_refl _⟩⟩
  case round =>
    obtain ⟨done, rest, i, o, rfl, rfl, rfl, HL, HP, HBR, HSZ⟩ := hrel
    clear hBs
    have hdl : Aside0 (l0.length = done.length + rest.length) := ⟨by have := HL.out; rw [this]; simp⟩
    have HMR : Aside0 (m ≤ wr.heap.size) := ⟨by have := HMM.out; have := HSZ.out; omega⟩
    cases rest with
    | nil =>
      have hlt : decide ((done.length : Int) < (l0.length : Int)) = false := decide_eq_false (by have := hdl.out; simp at this; omega)
      have hlt2 : decide (done.length < l0.length) = false := decide_eq_false (by have := hdl.out; simp at this; omega)
      obtain ⟨pre, e1, e2, hJs⟩ := HP.out
      obtain ⟨fn, tmps, assign, body, hy, hR⟩ := HY.out pre ⟨⟨0, 0, ⟨#[]⟩⟩, i, o, zero_out⟩ wr hJs (by have := hdl.out; simp at this; omega)
      have E1 := Aside0.mk e1
      have RR := Aside0.mk hR
      clear e1 e2 hJs hR
      dsimp only [encSt] at hy
      gi_wp2
      refine RR.out.mono ?_
      rintro e W3 (⟨rfl, hJ3, hk3⟩ | ⟨rfl, hJx3⟩)
      · gi_wp2
        go_end0
        exact ⟨⟨_, rfl⟩, .inl ⟨_, E1.out.symm, hJ3⟩⟩
      · gi_wp2
        go_end0
        exact ⟨⟨_, rfl⟩, .inr ⟨_, ⟨[], by rw [List.append_nil]; exact E1.out.symm⟩, hJx3⟩⟩
    | cons s r =>
      have hlt : (done.length : Int) < (l0.length : Int) := by have := hdl.out; simp at this; omega
      have hlt1 : done.length < l0.length := by omega
      have hmx : (l0.length : Int) ≤ 9223372036854775807 := by have := HM.out; omega
      obtain ⟨ad, e, hx0, hx1, hx2⟩ := at_T26 (Kd.C_below HR0.out HBR.out) (done.length : Int) (by omega) hlt
      cases e
      have hrd : rd_T26 l0 (done.length : Int) = s := by
        unfold rd_T26
        rw [Int.toNat_natCast, List.getD_eq_getElem?_getD, HL.out]
        simp
      rw [hrd, Int.toNat_natCast] at hx0 hx1 hx2
      obtain ⟨pre, e1, e2, hJs⟩ := HP.out
      have hok2 := stepsOk_at HOK.out HL.out
      have hso : (span_Out.f s.f0 s.f1 s.f2).isSome = true := by rw [hok2.2]; rfl
      have HSI := Aside0.mk hok2.1
      have HSO := Aside0.mk hok2.2
      have hbl := below_alloc (Below.refl _ wr) (.cells #[.int .i64 s.f0, .int .i64 s.f1, .string s.f2] 26)
      obtain ⟨fn, tmps, assign, body, hy, hR⟩ := HY.out pre ⟨s, i, o, hso⟩ (wr.alloc (.cells #[.int .i64 s.f0, .int .i64 s.f1, .string s.f2] 26)) (abides_more HJ.out hJs hbl) (by have := hdl.out; simp at this; omega)
      have E1 := Aside0.mk e1
      have E2 := Aside0.mk e2
      have RR := Aside0.mk hR
      have HB2 := Aside0.mk (below_step HBR.out hbl)
      have BX : Aside0 ((wr.alloc (.cells #[.int .i64 s.f0, .int .i64 s.f1, .string s.f2] 26)).heap[wr.heap.size]? = some (.cells #[.int .i64 s.f0, .int .i64 s.f1, .string s.f2] 26 (0, 0))) := ⟨blk_new wr _⟩
      have HSO2 := Aside0.mk hso
      clear hrd e1 e2 hJs hok2 hR hbl
      dsimp only [encSt] at hy
      gi_wp2
      refine RR.out.mono ?_
      rintro e W3 (⟨rfl, hJ3, hk3⟩ | ⟨rfl, hJx3⟩)
      · have BX3 := Aside0.mk (hk3.c _ _ HMR.out BX.out rfl)
        have HB3 := Aside0.mk (HB2.out.trans hk3.b)
        have J3 := Aside0.mk hJ3
        have SZ3 := Aside0.mk (Nat.le_trans HSZ.out (Nat.le_trans (by simp) hk3.b.size))
        clear hJ3 hk3
        have cx0 := (blk_cell BX3.out 0).trans (show _ = some (Value.int .i64 s.f0) from rfl)
        have cx1 := (blk_cell BX3.out 1).trans (show _ = some (Value.int .i64 s.f1) from rfl)
        have cx2 := (blk_cell BX3.out 2).trans (show _ = some (Value.string s.f2) from rfl)
        gi_wp2_with (first | (refine ⟨trivial, ?_⟩; gi_at_call 80; (with_reducible refine (callsIn_wide.2 (span_In.calls _ _ _ _ _ (HG.out.below HB3.out) HSI.out)).mono ?_); rintro e W4 ⟨rfl, hb⟩; have HB4 := Aside0.mk hb; clear hb cx0 cx1 cx2; have cx0 := (blk_cell (blk_below BX3.out HB4.out) 0).trans (show _ = some (Value.int .i64 s.f0) from rfl); have cx1 := (blk_cell (blk_below BX3.out HB4.out) 1).trans (show _ = some (Value.int .i64 s.f1) from rfl); have cx2 := (blk_cell (blk_below BX3.out HB4.out) 2).trans (show _ = some (Value.string s.f2) from rfl)) | (refine ⟨trivial, ?_⟩; gi_at_call 49; (with_reducible refine (callsIn_wide.2 (span_Out.calls _ _ _ _ _ (HG.out.below (below_step HB3.out HB4.out)) HSO.out)).mono ?_); rintro e W5 ⟨rfl, hb⟩; have HB5 := Aside0.mk hb; clear hb))
        go_roundw
        case rel =>
          refine ⟨done ++ [s], r, wrap64 (i + inS s), wrap64 (o + outS s), rfl, rfl, by rw [List.length_append, List.length_singleton]; go_num, ⟨by rw [HL.out]; simp⟩, ⟨pre ++ [⟨s, i, o, hso⟩], by rw [E1.out, stepsL, dif_pos hso]; simp, by rw [List.length_append, List.length_append, E2.out]; rfl, abides_more HJ.out (abides_more HJ.out J3.out HB4.out) HB5.out⟩, ⟨below_step (below_step HB3.out HB4.out) HB5.out⟩, ⟨?_⟩⟩
          exact Nat.le_trans SZ3.out (Nat.le_trans HB4.out.size HB5.out.size)
        case measure => simp [intOf]; omega
      · gi_wp2
        refine bodyPost_ret (results_none rfl _ _ _) rfl ?_
        exact ⟨⟨_, rfl⟩, .inr ⟨_, ⟨stepsL r (wrap64 (i + inS s)) (wrap64 (o + outS s)), by rw [E1.out, stepsL.eq_2, dif_pos hso]; simp⟩, hJx3⟩⟩
def whereS (gap : Int) : List St → Int → Int
  | [], a => a
  | x :: r, a => if x.i > gap then a else whereS gap r (if x.s.f0 = 1 then wrap64 (x.o + mn x.s.f1 (wrap64 (gap - x.i))) else if x.s.f0 = 2 then wrap64 (x.o + outS x.s) else x.o)
def place_Where.f (k : Nat) (l : List S26) (gap : Int) : Option (Int × Int) :=
  if stepsOk l = true then (op_May.f k l).bind fun e => if e = 0 then (if gap < 0 then some (0, 6) else (op_In.f k l).bind fun n => if gap > n then some (0, 6) else some (whereS gap (stepsL l 0 0) 0, 0)) else some (0, e) else none
theorem place_Where.mono (l : List S26) (gap : Int) (k : Nat) : LeO (place_Where.f k l gap) (place_Where.f (k + 1) l gap) := by
  unfold place_Where.f
  split
  · refine LeO.bind (op_May.mono _ _) (fun e => ?_)
    split
    · split
      · exact LeO.refl _
      · exact LeO.bind (op_In.mono _ _) (fun n => LeO.refl _)
    · exact LeO.refl _
  · exact LeO.refl _
theorem steps.calls (A0 : Option Addr) (n c0 : Nat) (w : World) :
  Calls Tryd.prog 67 #[.slice A0 n c0] w fun e w' => e = .returned (.func (.func 87) #[] #[.pointer (some ⟨w.heap.size, 0, none⟩)]) ∧ w' = w.alloc (.cells #[.slice A0 n c0] 27) := by
 refine (callsIn_wide (n := 0)).1 ?_
 refine callsIn_of_wp Tryd.func67 rfl trivial ?_ rfl
 simp only [Tryd.ntmps67, List.size_toArray, List.length_cons, List.length_nil, Nat.reduceAdd, Nat.reduceSub, Array.replicate_succ, Array.replicate_zero, List.push_toArray, List.append_toArray, List.nil_append, List.cons_append]
 gi_wp2
 go_ret
 exact ⟨rfl, rfl⟩
set_option maxHeartbeats 4000000 in
theorem place_Where_bad (k : Nat) (A0 : Option Addr) (c0 : Nat) (l0 : List S26) (a1 e : Int) (he : e ≠ 0) (w : World) (hG : Glob w) (hr0 : Kd.C k26 w A0 l0.length l0) (hc0 : l0.length ≤ c0) (h : op_May.f k l0 = some e) :
  Calls Tryd.prog 33 #[.slice A0 l0.length c0, .int .i64 a1] w fun e2 w' => e2 = .returned (.tuple #[.int .i64 0, .int .i64 e]) ∧ Below w.heap.size w w' := by
 have HG := Aside0.mk hG;have HR0 := Aside0.mk hr0;have HC0 := Aside0.mk hc0;have H := Aside0.mk h;have d0 : (e != 0) = true := by simp [he]
 clear hG hr0 hc0 h he;go_enter Tryd.func33, Tryd.ntmps33
 go_wp2_with ((go_at_call 47; (with_reducible refine (op_May.calls k _ _ l0 e _ (HG.out.below (below_alloc (Below.refl _ _) _)) (Kd.C_alloc HR0.out _) HC0.out H.out).mono ?_); rintro e2 w1 ⟨rfl, hb⟩; have HB1 := Aside0.mk hb; clear hb))
 go_ret2
 exact ⟨rfl, below_step (below_alloc (Below.refl _ _) _) HB1.out⟩
set_option maxHeartbeats 4000000 in
theorem place_Where_low (k : Nat) (A0 : Option Addr) (c0 : Nat) (l0 : List S26) (a1 : Int) (ha : a1 < 0) (w : World) (hG : Glob w) (hr0 : Kd.C k26 w A0 l0.length l0) (hc0 : l0.length ≤ c0) (h : op_May.f k l0 = some 0) :
  Calls Tryd.prog 33 #[.slice A0 l0.length c0, .int .i64 a1] w fun e2 w' => e2 = .returned (.tuple #[.int .i64 0, .int .i64 6]) ∧ Below w.heap.size w w' := by
 have HG := Aside0.mk hG;have HR0 := Aside0.mk hr0;have HC0 := Aside0.mk hc0;have H := Aside0.mk h;have d0 : decide (a1 < 0) = true := decide_eq_true ha
 clear hG hr0 hc0 h ha;go_enter Tryd.func33, Tryd.ntmps33
 go_wp2_with ((go_at_call 47; (with_reducible refine (op_May.calls k _ _ l0 0 _ (HG.out.below (below_alloc (Below.refl _ _) _)) (Kd.C_alloc HR0.out _) HC0.out H.out).mono ?_); rintro e2 w1 ⟨rfl, hb⟩; have HB1 := Aside0.mk hb; have cx := (blk_cell (blk_below (blk_new w _) hb) 0).trans (show _ = some (Value.int .i64 a1) from rfl); clear hb))
 go_region
 go_wp2
 go_ret2
 exact ⟨rfl, by repeat (first | exact below_step (below_alloc (Below.refl _ _) _) HB1.out | apply pw_below_drewN | apply below_drew1)⟩
set_option maxHeartbeats 4000000 in
theorem place_Where_high (k : Nat) (A0 : Option Addr) (c0 : Nat) (l0 : List S26) (a1 n : Int) (ha : 0 ≤ a1) (hn : n < a1) (w : World) (hG : Glob w) (hr0 : Kd.C k26 w A0 l0.length l0) (hc0 : l0.length ≤ c0) (h : op_May.f k l0 = some 0) (h2 : op_In.f k l0 = some n) :
  Calls Tryd.prog 33 #[.slice A0 l0.length c0, .int .i64 a1] w fun e2 w' => e2 = .returned (.tuple #[.int .i64 0, .int .i64 6]) ∧ Below w.heap.size w w' := by
 have HG := Aside0.mk hG;have HR0 := Aside0.mk hr0;have HC0 := Aside0.mk hc0;have H := Aside0.mk h;have H2 := Aside0.mk h2;have d0 : decide (a1 < 0) = false := decide_eq_false (by omega)
 have d1 : decide (n < a1) = true := decide_eq_true hn
 clear hG hr0 hc0 h h2 ha hn;go_enter Tryd.func33, Tryd.ntmps33
 go_wp2_with ((go_at_call 47; (with_reducible refine (op_May.calls k _ _ l0 0 _ (HG.out.below (below_alloc (Below.refl _ _) _)) (Kd.C_alloc HR0.out _) HC0.out H.out).mono ?_); rintro e2 w1 ⟨rfl, hb⟩; have HB1 := Aside0.mk hb; have cx := (blk_cell (blk_below (blk_new w _) hb) 0).trans (show _ = some (Value.int .i64 a1) from rfl); clear hb))
 have HBD := Aside0.mk (below_drew1 (below_step (below_alloc (Below.refl _ _) _) HB1.out))
 have BXD : Aside0 (w1.drew.heap[w.heap.size]? = some (.cells #[.int .i64 a1] 3 (0, 0))) := ⟨blk_drew (blk_below (blk_new w _) HB1.out)⟩
 go_region_with (first | (go_at_call 45; (with_reducible refine (op_In.calls k _ _ l0 n _ (HG.out.below HBD.out) (Kd.C_below HR0.out HBD.out) HC0.out H2.out).mono ?_); rintro e3 w2 ⟨rfl, hb⟩; have HB2 := Aside0.mk hb; have cx2 := (blk_cell (blk_below BXD.out hb) 0).trans (show _ = some (Value.int .i64 a1) from rfl); clear hb))
 all_goals (go_wp2; go_ret2; exact ⟨rfl, below_step HBD.out HB2.out⟩)
theorem keepsFrom_below {B : Nat} {W W' : World} (h : Below W.heap.size W W') : KeepsFrom B W W' := ⟨h.size, fun k o _ hk _ => (h.block k (Array.getElem?_eq_some_iff.1 hk).1).trans hk⟩
theorem steps_stops (n : Nat) (hn : 1 ≤ n) (Bs m : Nat) (A0 : Option Addr) (c0 : Nat) (l0 : List S26) (w W0 : World) (hG : Glob w) (hr0 : Kd.C k26 w A0 l0.length l0) (hok : stepsOk l0 = true) (hB0 : Below w.heap.size w W0) (hm : m ≤ W0.heap.size) (hbs : Bs < W0.heap.size)
  (hBs : W0.cell? ⟨Bs, 0, none⟩ = some (.slice A0 l0.length c0)) :
  SeqStopsK Fence.wide n Tryd.prog 87 #[.pointer (some ⟨Bs, 0, none⟩)] (fun x : St => #[encSt x]) (KpS w.heap.size m) (fun ys => ys = stepsL l0 0 0) (fun pre => pre <+: stepsL l0 0 0) (l0.length + 1) W0 := fun l J Jx W hW hJ _ hY h0 =>
 steps1_in n l Bs w.heap.size m hn A0 c0 l0 w rfl hG hr0 hok J Jx hY W hJ (Nat.le_trans hm hW.size) (below_step hB0 hW) ((hW.cell (p := ⟨Bs, 0, none⟩) hbs).trans hBs) h0
theorem whereS_snoc (gap : Int) : ∀ (pre : List St) (x : St) (a : Int), (∀ y ∈ pre, y.i ≤ gap) → whereS gap (pre ++ [x]) a = if x.i > gap then whereS gap pre a else (if x.s.f0 = 1 then wrap64 (x.o + mn x.s.f1 (wrap64 (gap - x.i))) else if x.s.f0 = 2 then wrap64 (x.o + outS x.s) else x.o)
 | [], x, a, _ => by simp [whereS]
 | y :: pre, x, a, h => by
  rw [List.cons_append, whereS, if_neg (Int.not_lt.2 (h y (by simp))), whereS_snoc gap pre x _ (fun z hz => h z (by simp [hz])), whereS, if_neg (Int.not_lt.2 (h y (by simp)))]
theorem whereS_stop (gap : Int) : ∀ (pre : List St) (x : St) (r : List St) (a : Int), (∀ y ∈ pre, y.i ≤ gap) → x.i > gap → whereS gap (pre ++ x :: r) a = whereS gap pre a
 | [], x, r, a, _, hx => by
  show (if x.i > gap then a else _) = a
  rw [if_pos hx]
 | y :: pre, x, r, a, h, hx => by
  rw [List.cons_append, whereS, if_neg (Int.not_lt.2 (h y (by simp))), whereS_stop gap pre x r _ (fun z hz => h z (by simp [hz])) hx]
  conv => rhs; rw [whereS, if_neg (Int.not_lt.2 (h y (by simp)))]
def NoPanic (Q : Exit → Act → World → Prop) : Exit → Act → World → Prop
 | .panic _, _, _ => False
 | .normal, a, w => Q .normal a w
 | .ret, a, w => Q .ret a w
 | .exit i, a, w => Q (.exit i) a w
 | .goto t, a, w => Q (.goto t) a w
 | .outgrown, a, w => Q .outgrown a w
theorem wp_quiet {F : Fence} {n : Nat} {c : Code} {Q : Exit → Act → World → Prop} {a : Act} {w : World} (h : c.wpIn F n Tryd.prog (NoPanic Q) a w) : c.wpIn F n Tryd.prog Q a w :=
 wpIn_mono h (fun e a w hq => by cases e <;> first | exact hq | exact hq.elim)
theorem box_below {W W' : World} {B : Nat} {t : TypeId} {v : Value} (h : Boxed W B t v) (hb : Below W.heap.size W W') : Boxed W' B t v := blk_below h hb
def Boxed5 (W : World) (B : Nat) (x : St) : Prop := W.heap[B]? = some (.cells #[.int .i64 x.s.f0, .int .i64 x.s.f1, .string x.s.f2, .int .i64 x.i, .int .i64 x.o] 90 (0, 0))
theorem boxed5_own {β : Type} (B : Nat) (x : St) : Own (fun (_ : β) W => Boxed5 W B x) := fun s X Y row hs hg hrow =>
 (hg.block B (Array.getElem?_eq_some_iff.1 hs).1 (fun e' => by obtain ⟨o, ho, hc⟩ := hrow B e'.symm; rw [show X.heap[B]? = _ from hs] at ho; cases ho; cases hc)).trans hs
def WhI (w : World) (bg ba : Nat) (gap : Int) (pre : List St) (W : World) : Prop :=
 ((Boxed W bg 3 (.int .i64 gap) ∧ Boxed W ba 3 (.int .i64 (whereS gap pre 0))) ∧ (∀ y ∈ pre, y.i ≤ gap)) ∧ Below w.heap.size w W
def WhX (w : World) (ba : Nat) (gap : Int) (c : Code) (pre : List St) (W : World) : Prop :=
 (c = .exit 0 ∧ ∃ ini x, pre = ini ++ [x] ∧ gap < x.i ∧ (∀ y ∈ ini, y.i ≤ gap) ∧ Boxed W ba 3 (.int .i64 (whereS gap ini 0))) ∧ Below w.heap.size w W
theorem WhI.own (w : World) (bg ba : Nat) (gap : Int) {B : Nat} (hB : w.heap.size ≤ B) : OwnFrom B (WhI w bg ba gap) :=
 OwnFrom.and (OwnFrom.and (OwnFrom.and (Own.from (boxed_own _ _ (fun _ => .int .i64 gap)) _) (Own.from (boxed_own _ _ (fun pre => .int .i64 (whereS gap pre 0))) _)) (ownFrom_pure _ _)) (ownFrom_below (Nat.le_refl _) hB)
theorem WhX.own (w : World) (ba : Nat) (gap : Int) (c : Code) {B : Nat} (hB : w.heap.size ≤ B) : OwnFrom B (WhX w ba gap c) := fun pre X Y row hs hg hr => by
 obtain ⟨⟨hc, ini, x, e1, e2, e3, b2⟩, hb⟩ := hs
 exact ⟨⟨hc, ini, x, e1, e2, e3, boxed_own ba 3 (fun (_ : Unit) => Value.int .i64 (whereS gap ini 0)) () X Y row b2 hg (fun r e => (hr r e).2)⟩, ownFrom_below (β := Unit) (Nat.le_refl _) hB () X Y row hb hg hr⟩
set_option maxRecDepth 100000 in
set_option maxHeartbeats 40000000 in
theorem place_Where_main (k : Nat) (A0 : Option Addr) (c0 : Nat) (l0 : List S26) (a1 n : Int) (ha : 0 ≤ a1) (hn : a1 ≤ n) (w : World) (hG : Glob w) (hr0 : Kd.C k26 w A0 l0.length l0) (hc0 : l0.length ≤ c0) (hok : stepsOk l0 = true) (h : op_May.f k l0 = some 0) (h2 : op_In.f k l0 = some n) :
  Calls Tryd.prog 33 #[.slice A0 l0.length c0, .int .i64 a1] w fun e2 w' => e2 = .returned (.tuple #[.int .i64 (whereS a1 (stepsL l0 0 0) 0), .int .i64 0]) ∧ Below w.heap.size w w' := by
 have HG := Aside0.mk hG;have HR0 := Aside0.mk hr0;have HC0 := Aside0.mk hc0;have H := Aside0.mk h;have H2 := Aside0.mk h2;have HOK := Aside0.mk hok;have d0 : decide (a1 < 0) = false := decide_eq_false (by omega)
 have d1 : decide (n < a1) = false := decide_eq_false (by omega)
 clear hG hr0 hc0 h h2 ha hn hok;refine (callsIn_wide (n := 6)).1 ?_
 refine callsIn_of_wp_marks Tryd.func33 rfl trivial ?_ rfl
 refine wp_quiet (wpIn_wide.2 ?_)
 simp only [Tryd.ntmps33, List.size_toArray, List.length_cons, List.length_nil, Nat.reduceAdd, Nat.reduceSub, Array.replicate_succ, Array.replicate_zero, List.push_toArray, List.append_toArray, List.nil_append, List.cons_append]
 go_wp2_with ((go_at_call 47; (with_reducible refine (op_May.calls k _ _ l0 0 _ (HG.out.below (below_alloc (Below.refl _ _) _)) (Kd.C_alloc HR0.out _) HC0.out H.out).mono ?_); rintro e2 w1 ⟨rfl, hb⟩; have HB1 := Aside0.mk hb; have cx := (blk_cell (blk_below (blk_new w _) hb) 0).trans (show _ = some (Value.int .i64 a1) from rfl); clear hb))
 have HBD := Aside0.mk (below_drew1 (below_step (below_alloc (Below.refl _ _) _) HB1.out))
 have BXD : Aside0 (w1.drew.heap[w.heap.size]? = some (.cells #[.int .i64 a1] 3 (0, 0))) := ⟨blk_drew (blk_below (blk_new w _) HB1.out)⟩
 go_region_with (first | (go_at_call 45; (with_reducible refine (op_In.calls k _ _ l0 n _ (HG.out.below HBD.out) (Kd.C_below HR0.out HBD.out) HC0.out H2.out).mono ?_); rintro e3 w2 ⟨rfl, hb⟩; have HB2 := Aside0.mk hb; have cx2 := (blk_cell (blk_below BXD.out hb) 0).trans (show _ = some (Value.int .i64 a1) from rfl); clear hb))
 all_goals
  go_wp2_with (go_at_call 67; (with_reducible refine (steps.calls _ _ _ _).mono ?_); rintro e4 w4 ⟨rfl, rfl⟩)
  have HB3 := Aside0.mk (below_step HBD.out HB2.out)
  have BG2 : Aside0 (Boxed w2 w.heap.size 3 (.int .i64 a1)) := ⟨blk_below BXD.out HB2.out⟩
  have hsz : ((w2.alloc (.cells #[.int .i64 0] 3)).alloc (.cells #[.slice A0 l0.length c0] 27)).heap.size = w2.heap.size + 2 := by simp
  have BA2 := Aside0.mk ((Boxed.new w2 3 (.int .i64 0)).alloc (.cells #[.slice A0 l0.length c0] 27))
  have BG3 := Aside0.mk ((BG2.out.alloc (.cells #[.int .i64 0] 3)).alloc (.cells #[.slice A0 l0.length c0] 27))
  have BS3 := Boxed.new (w2.alloc (.cells #[.int .i64 0] 3)) 27 (.slice A0 l0.length c0)
  rw [World.size_alloc] at BS3
  have HB4 := Aside0.mk (below_alloc (below_alloc HB3.out (.cells #[.int .i64 0] 3)) (.cells #[.slice A0 l0.length c0] 27))
  have hgs := BG2.out.lt
  have hws := HB3.out.size
  obtain ⟨W0, hW0⟩ : ∃ W0, (w2.alloc (.cells #[.int .i64 0] 3)).alloc (.cells #[.slice A0 l0.length c0] 27) = W0 := ⟨_, rfl⟩
  rw [hW0] at BA2 BG3 BS3 HB4 hsz ⊢
  clear hW0 cx cx2 d0 d1;refine (wpIn_wide (n := 6)).1 ?_
  refine wpIn_rangeFunc_ownH rfl (by omega) (gf := 87) (lb := #[.pointer (some ⟨w2.heap.size + 1, 0, none⟩)]) rfl trivial (enters_of Tryd.func87 (by kernel_rfl) rfl)
   (steps_stops 5 (by omega) (w2.heap.size + 1) (w2.heap.size + 2) A0 c0 l0 w W0 HG.out HR0.out HOK.out HB4.out (by omega) (by omega) BS3.cell) (fun h k => h.trans k) (KpS.put (by omega)) (Below.refl _ _) (fun _ => rfl)
   (WhI w w.heap.size w2.heap.size a1) (WhX w w2.heap.size a1) (WhI.own _ _ _ _ (by omega)) (fun c => WhX.own _ _ _ c (by omega)) ⟨⟨⟨BG3.out, BA2.out⟩, fun y hy => by cases hy⟩, HB4.out⟩
   (fun x a' W => ∃ Bx, w2.heap.size < Bx ∧ Boxed5 W Bx x ∧ a' = { tmps := #[.slice A0 l0.length c0, .int .i64 a1, undef, .pointer (some ⟨w.heap.size, 0, none⟩), .int .i64 0, .int .i64 0, .int .i64 0, .pointer (some ⟨w2.heap.size, 0, none⟩), .pointer (some ⟨Bx, 0, none⟩),
    .slice A0 l0.length c0, .int .i64 0, .int .i64 0, .bool false, undef, .int .i64 a1, .bool false, .bool false, .int .i64 a1, .slice A0 l0.length c0, .int .i64 n, .bool false, .bool false, .slice A0 l0.length c0, .func (.func 87) #[] #[.pointer (some ⟨w2.heap.size + 1, 0, none⟩)],
    encSt x, undef, undef, undef, undef, undef, undef, undef, undef, undef, undef, undef, undef, undef, undef, undef, undef, undef, undef, undef, undef, undef, undef, undef, undef, undef, undef, undef, undef, undef], defers := [] })
   (fun x a' _ X Y row hs hg hr => by obtain ⟨Bx, h1, h2, h3⟩ := hs; exact ⟨Bx, h1, boxed5_own Bx x () X Y row h2 hg (fun r e => (hr r e).2), h3⟩)
   ?assign ?body ?done ?stop
  case assign =>
   rintro l pre x W K ⟨⟨⟨bG, bA⟩, hP⟩, hB⟩ hK
   dsimp only [encSt] at hK ⊢
   gi_wp2
   exact hK _ _ ((KeepsOthers.alloc _ _).from _) (KpS.more (below_alloc (Below.refl _ _) _) hB.size) ⟨⟨⟨bG.alloc _, bA.alloc _⟩, hP⟩, below_alloc hB _⟩ ⟨W.heap.size, by have := bA.lt; omega, blk_new W _, rfl⟩
  case body =>
   rintro l pre x a' W hl ⟨r, hr⟩ ⟨⟨⟨bG, bA⟩, hP⟩, hB⟩ ⟨Bx, hBx, bX, rfl⟩ hlt
   have BG := Aside0.mk bG;have BA := Aside0.mk bA;have BX := Aside0.mk bX;have PP := Aside0.mk hP;have HBW := Aside0.mk hB;have hbs := hB.size
   have cg := bG.cell
   have ca := bA.cell
   have fa := bA.frozen
   have cx0 := (blk_cell bX 0).trans (show _ = some (Value.int .i64 x.s.f0) from rfl)
   have cx1 := (blk_cell bX 1).trans (show _ = some (Value.int .i64 x.s.f1) from rfl)
   have cx2 := (blk_cell bX 2).trans (show _ = some (Value.string x.s.f2) from rfl)
   have cx3 := (blk_cell bX 3).trans (show _ = some (Value.int .i64 x.i) from rfl)
   have cx4 := (blk_cell bX 4).trans (show _ = some (Value.int .i64 x.o) from rfl)
   clear bG bA bX hP hB hr hlt;dsimp only [encSt]
   by_cases c1 : x.i > a1
   ·have d1 : decide (a1 < x.i) = true := decide_eq_true c1
    have C1 := Aside0.mk c1;clear c1;gi_wp2
    exact ⟨KeepsFrom.refl _ _, ⟨⟨rfl, pre, x, rfl, C1.out, PP.out, BA.out⟩, HBW.out⟩⟩
   ·have d1 : decide (a1 < x.i) = false := decide_eq_false c1
    have P2 : Aside0 (∀ y ∈ pre ++ [x], y.i ≤ a1) := ⟨fun y hy => (List.mem_append.1 hy).elim (PP.out y) (fun e => by simp at e; subst e; exact Int.not_lt.1 c1)⟩
    have SN := Aside0.mk (whereS_snoc a1 pre x 0 PP.out)
    have C1 := Aside0.mk (Int.not_lt.1 c1)
    have BA1 := Aside0.mk (BA.out.set (.int .i64 x.o))
    have ca1 := BA1.out.cell
    have fa1 := BA1.out.frozen
    have BG1 := Aside0.mk (BG.out.other (B' := w2.heap.size) (by omega) (.int .i64 x.o))
    have cg1 := BG1.out.cell
    have BX1 : Aside0 (Boxed5 (W.setCell ⟨w2.heap.size, 0, none⟩ (.int .i64 x.o)) Bx x) := ⟨(Below.heap_setCell W ⟨w2.heap.size, 0, none⟩ _ Bx (by show Bx ≠ w2.heap.size; omega)).trans BX.out⟩
    have cy0 := (blk_cell BX1.out 0).trans (show _ = some (Value.int .i64 x.s.f0) from rfl)
    have cy1 := (blk_cell BX1.out 1).trans (show _ = some (Value.int .i64 x.s.f1) from rfl)
    have cy2 := (blk_cell BX1.out 2).trans (show _ = some (Value.string x.s.f2) from rfl)
    have cy3 := (blk_cell BX1.out 3).trans (show _ = some (Value.int .i64 x.i) from rfl)
    have cy4 := (blk_cell BX1.out 4).trans (show _ = some (Value.int .i64 x.o) from rfl)
    clear c1;by_cases c2 : x.s.f0 = 1
    ·have d2 : (x.s.f0 == 1) = true := by simp [c2]
     have C2 := Aside0.mk c2;clear c2;have fin : Aside0 (∀ z, mn x.s.f1 (wrap64 (a1 - x.i)) = z → ownPostG (w2.heap.size + 2) (KpS w.heap.size (w2.heap.size + 2)) (WhI w w.heap.size w2.heap.size a1) (WhX w w2.heap.size a1) (pre ++ [x]) W Exit.normal { tmps := #[], defers := [] } ((W.setCell ⟨w2.heap.size, 0, none⟩ (.int .i64 x.o)).setCell ⟨w2.heap.size, 0, none⟩ (.int .i64 (wrap64 (x.o + z))))) := ⟨by
      rintro z rfl
      refine ⟨((KeepsOthers.setCell _ _ _).trans (KeepsOthers.setCell _ _ _)).from _, (KpS.set _ _ _ (by omega) (by omega)).trans (KpS.set _ _ _ (by omega) (by omega)), ⟨⟨⟨BG1.out.other (by omega) _, ?_⟩, P2.out⟩, (HBW.out.setCell (p := ⟨w2.heap.size, 0, none⟩) (by show w.heap.size ≤ w2.heap.size; omega) _).setCell (p := ⟨w2.heap.size, 0, none⟩) (by show w.heap.size ≤ w2.heap.size; omega) _⟩⟩
      rw [SN.out, if_neg (Int.not_lt.2 C1.out), if_pos C2.out]
      exact BA1.out.set _⟩
     gi_wp2
     ·exact fin.out _ (by unfold mn; split <;> omega)
     ·exact fin.out _ (by unfold mn; split <;> omega)
    ·have d2 : (x.s.f0 == 1) = false := by simp [c2]
     have C2 := Aside0.mk c2;clear c2;by_cases c3 : x.s.f0 = 2
     ·have d3 : (x.s.f0 == 2) = true := by simp [c3]
      have C3 := Aside0.mk c3;clear c3;have hmix : Tryd.prog.follows .mixedOrders = true := by kernel_rfl
      have HXO := Aside0.mk (some_out x.h)
      have hx2 : 1 ≤ 6 - 1 - 1 := by decide
      have BAD : Aside0 (Boxed ((W.setCell ⟨w2.heap.size, 0, none⟩ (.int .i64 x.o)).drew) w2.heap.size 3 (.int .i64 x.o)) := ⟨blk_drew BA1.out⟩
      have BGD : Aside0 (Boxed ((W.setCell ⟨w2.heap.size, 0, none⟩ (.int .i64 x.o)).drew) w.heap.size 3 (.int .i64 a1)) := ⟨blk_drew BG1.out⟩
      have HBD1 : Aside0 (Below w.heap.size w ((W.setCell ⟨w2.heap.size, 0, none⟩ (.int .i64 x.o)).drew)) := ⟨below_drew1 (HBW.out.setCell (p := ⟨w2.heap.size, 0, none⟩) (by show w.heap.size ≤ w2.heap.size; omega) _)⟩
      gi_wp2
      gi_region_with_o (refine ⟨trivial, ?_⟩; gi_at_call 49; (with_reducible refine (CallsIn.inRound l (callsIn_wide.2 (span_Out.calls _ _ _ _ _ (HG.out.below HBD1.out) HXO.out))).mono ?_); rintro e5 W3 ⟨rfl, hb⟩; have HB5 := Aside0.mk hb; have BA5 := Aside0.mk (box_below BAD.out hb); have ca5 := BA5.out.cell; have fa5 := BA5.out.frozen; clear hb)
      all_goals
       change KeepsFrom _ _ _ ∧ KpS _ _ _ _ ∧ WhI _ _ _ _ _ _
       have hkp : KpS w.heap.size (w2.heap.size + 2) W W3 := (KpS.set W w2.heap.size (.int .i64 x.o) (by omega) (by omega)).trans (KpS.more (Below.trans (below_drew1 (Below.refl _ _)) HB5.out) HBD1.out.size)
       have hkf : KeepsFrom W0.heap.size W W3 := ((KeepsOthers.setCell W ⟨w2.heap.size, 0, none⟩ (.int .i64 x.o)).from _).trans (keepsFrom_below (Below.trans (below_drew1 (Below.refl _ _)) HB5.out))
       refine ⟨hkf.trans ((KeepsOthers.setCell _ _ _).from _), hkp.trans (KpS.set _ _ _ (by omega) (by omega)), ⟨⟨⟨(box_below BGD.out HB5.out).other (by omega) _, ?_⟩, P2.out⟩, (below_step HBD1.out HB5.out).setCell (p := ⟨w2.heap.size, 0, none⟩) (by show w.heap.size ≤ w2.heap.size; omega) _⟩⟩
       rw [SN.out, if_neg (Int.not_lt.2 C1.out), if_neg C2.out, if_pos C3.out, ← i64_w]
       exact BA5.out.set _
     ·have d3 : (x.s.f0 == 2) = false := by simp [c3]
      have C3 := Aside0.mk c3;clear c3;gi_wp2
      refine ⟨(KeepsOthers.setCell _ _ _).from _, KpS.set _ _ _ (by omega) (by omega), ⟨⟨⟨BG1.out, ?_⟩, P2.out⟩, HBW.out.setCell (p := ⟨w2.heap.size, 0, none⟩) (by show w.heap.size ≤ w2.heap.size; omega) _⟩⟩
      rw [SN.out, if_neg (Int.not_lt.2 C1.out), if_neg C2.out, if_neg C3.out]
      exact BA1.out
  case done =>
   rintro D zs W hD rfl ⟨⟨⟨bG, bA⟩, hP⟩, hB⟩ hK
   have ca := bA.cell
   have HBW := Aside0.mk hB;clear bG bA hP hB;go_wp2
   show bodyPostM _ _ _ _ _ Exit.ret _ _
   refine ⟨by simp, .inl ⟨_, _, rfl, run_takeDeferred hK, ?_⟩⟩
   exact ⟨.tuple #[.int .i64 (whereS a1 (stepsL l0 0 0) 0), .int .i64 0], by simp [results, Tryd.results33, go_sem], rfl, HBW.out.trans (belowK_b (w := w) (Nat.le_refl _) W D _ _ (by omega) hK rfl rfl)⟩
  case stop =>
   rintro D c pre W hD ⟨r, hpre⟩ ⟨⟨rfl, ini, x, rfl, hx, hi, bA⟩, hB⟩ hK
   have ca := bA.cell
   have HBW := Aside0.mk hB;have HW : Aside0 (whereS a1 (stepsL l0 0 0) 0 = whereS a1 ini 0) := ⟨by rw [← hpre, List.append_assoc]; exact whereS_stop a1 ini x r 0 hi hx⟩
   rw [← HW.out] at ca
   clear bA hi hB hpre;gi_wp2
   go_wp2
   show bodyPostM _ _ _ _ _ Exit.ret _ _
   refine ⟨by simp, .inl ⟨_, _, rfl, run_takeDeferred hK, ?_⟩⟩
   exact ⟨.tuple #[.int .i64 (whereS a1 (stepsL l0 0 0) 0), .int .i64 0], by simp [results, Tryd.results33, go_sem], rfl, HBW.out.trans (belowK_b (w := w) (Nat.le_refl _) W D _ _ (by omega) hK rfl rfl)⟩
theorem place_Where.calls (k : Nat) (A0 : Option Addr) (c0 : Nat) (l0 : List S26) (a1 r1 r2 : Int) (w : World) (hG : Glob w) (hr0 : Kd.C k26 w A0 l0.length l0) (hc0 : l0.length ≤ c0) (h : place_Where.f k l0 a1 = some (r1, r2)) :
  Calls Tryd.prog 33 #[.slice A0 l0.length c0, .int .i64 a1] w fun e w' => e = .returned (.tuple #[.int .i64 r1, .int .i64 r2]) ∧ Below w.heap.size w w' := by
 unfold place_Where.f at h
 split at h
 ·next hok =>
  obtain ⟨e, he, h⟩ := Option.bind_eq_some_iff.1 h
  split at h
  ·next h0 =>
   subst h0
   split at h
   ·next hlow =>
    obtain ⟨rfl, rfl⟩ : 0 = r1 ∧ 6 = r2 := by simpa using h
    exact place_Where_low k A0 c0 l0 a1 hlow w hG hr0 hc0 he
   ·next hlow =>
    obtain ⟨n, hn, h⟩ := Option.bind_eq_some_iff.1 h
    split at h
    ·next hhi =>
     obtain ⟨rfl, rfl⟩ : 0 = r1 ∧ 6 = r2 := by simpa using h
     exact place_Where_high k A0 c0 l0 a1 n (by omega) (by omega) w hG hr0 hc0 he hn
    ·next hhi =>
     obtain ⟨rfl, rfl⟩ : whereS a1 (stepsL l0 0 0) 0 = r1 ∧ 0 = r2 := by simpa using h
     exact place_Where_main k A0 c0 l0 a1 n (by omega) (by omega) w hG hr0 hc0 hok he hn
  ·next h0 =>
   obtain ⟨rfl, rfl⟩ : 0 = r1 ∧ e = r2 := by simpa using h
   exact place_Where_bad k A0 c0 l0 a1 e h0 w hG hr0 hc0 he
 ·cases h
end Go.Proofs.YtkefbljogjcodaaDoor.F
end
section
namespace Go.Proofs.YtkefbljogjcodaaDoor.F
open Go.RowKit Go.Proofs.YtkefbljogjcodaaDoorW.PrintWords Go.Proofs.YtkefbljogjcodaaDoorW.PrintLast Go.Proofs.YtkefbljogjcodaaDoorW.PrintMore
set_option linter.unusedVariables false
set_option linter.unusedSimpArgs false
abbrev zA.a := @Kd.R_alloc
abbrev zA.n := @Kd.R_drewN
abbrev zA.d := @Kd.R_drew
abbrev zA.w := @pw_below_drewN
abbrev zA.b := @below_alloc
abbrev zA.e := @below_drew1
abbrev zA.s := @below_set
abbrev zA.f := @blk_drewN
abbrev zA.g := @blk_drew
abbrev zA.h := @blk_alloc
abbrev zA.p := @Kd.Q_alloc
abbrev zA.q := @Kd.Q_drewN
abbrev zA.r := @Kd.Q_drew
end Go.Proofs.YtkefbljogjcodaaDoor.F
end
section
namespace Go.Proofs.YtkefbljogjcodaaDoor.F
open Go.RowKit Go.Proofs.YtkefbljogjcodaaDoorW.PrintWords Go.Proofs.YtkefbljogjcodaaDoorW.PrintLast Go.Proofs.YtkefbljogjcodaaDoorW.PrintMore
set_option linter.unusedVariables false
set_option linter.unusedSimpArgs false
theorem Kd.V_inb {α : Type} {d : Kd α} {e base n c : Nat} {ok : Nat → Prop} {W : World} {ad : Addr} {xs : List α} (h : Kd.V d e W base ok (.slice (some ad) n c) xs) (hn : 0 < n) (hs : 0 < d.sz) : ok ad.block := Kd.F_in (Kd.V_F h) rfl hn hs
end Go.Proofs.YtkefbljogjcodaaDoor.F
end
section
namespace Go.Proofs.YtkefbljogjcodaaDoor.F
open Go.RowKit Go.Proofs.YtkefbljogjcodaaDoorW.PrintWords Go.Proofs.YtkefbljogjcodaaDoorW.PrintLast Go.Proofs.YtkefbljogjcodaaDoorW.PrintMore
attribute [local go_sem] max2_int min2_int max_two min_two max_three min_three max_four min_four cell_setCell_isSome
set_option linter.unusedVariables false
set_option linter.unusedSimpArgs false
open Kd
mutual
def epitomelaw11_OverGaps.j0 : Nat → Int → List (S26) → Bool → List ByteArray → List Bool → List ByteArray → List Bool → List ByteArray → List Bool → Option (Bool)
  | 0, _, _, _, _, _, _, _, _, _ => none
  | k + 1, x8, x10, x94, x120000, x120001, x128000, x128001, x136000, x136001 => if x94 = true then (some false) else ((op_Out.f k x10).bind fun t136 => (if 0 ≤ (wrap64 (t136 + 1)) then (if (wrap64 (t136 + 1) : Int).toNat ≤ 17592186044416 then (if 0 ≤ t136 then (if (t136 : Int).toNat ≤ 281474976710656 then (epitomelaw11_OverGaps.l0 k x8 x10 t136 0 x120000 x120001 x128000 x128001 x136000 x136001 (List.replicate (wrap64 (t136 + 1) : Int).toNat (⟨#[]⟩ : ByteArray)) (List.replicate (t136 : Int).toNat false)) else (none)) else (none)) else (none)) else (none)))
def epitomelaw11_OverGaps.l0 : Nat → Int → List (S26) → Int → Int → List ByteArray → List Bool → List ByteArray → List Bool → List ByteArray → List Bool → List ByteArray → List Bool → Option (Bool)
  | 0, _, _, _, _, _, _, _, _, _, _, _, _ => none
  | k + 1, x8, x10, x19, x21, x120000, x120001, x128000, x128001, x136000, x136001, x144000, x144001 => if x21 ≤ x8 then ((place_Where.f k x10 x21).bind fun bt145 => (if bt145.2 = 0 then (if bt145.1 < 0 then (epitomelaw11_OverGaps.j2 k x8 x10 x19 x21 bt145.1 true x120000 x120001 x128000 x128001 x136000 x136001 x144000 x144001) else (epitomelaw11_OverGaps.j2 k x8 x10 x19 x21 bt145.1 (decide (bt145.1 > x19)) x120000 x120001 x128000 x128001 x136000 x136001 x144000 x144001)) else (epitomelaw11_OverGaps.j2 k x8 x10 x19 x21 bt145.1 true x120000 x120001 x128000 x128001 x136000 x136001 x144000 x144001))) else ((epitomeref06_Same.f k x136000 x136001 x144000 x144001).bind fun t144 => (some t144))
def epitomelaw11_OverGaps.j2 : Nat → Int → List (S26) → Int → Int → Int → Bool → List ByteArray → List Bool → List ByteArray → List Bool → List ByteArray → List Bool → List ByteArray → List Bool → Option (Bool)
  | 0, _, _, _, _, _, _, _, _, _, _, _, _, _, _ => none
  | k + 1, x8, x10, x19, x21, x22, x124, x120000, x120001, x128000, x128001, x136000, x136001, x144000, x144001 => if x124 = true then (some false) else (if 0 ≤ x22 then (if x22 < (x144000.length : Int) then (if 0 ≤ x21 then (if x21 < (x120000.length : Int) then (if (rdOf ByteArray.empty x144000 x22).size + (rdOf ByteArray.empty x120000 x21).size ≤ 9223372036854775807 then ((some (x144000.set (x22 : Int).toNat ((rdOf ByteArray.empty x144000 x22) ++ (rdOf ByteArray.empty x120000 x21)) : List ByteArray)).bind fun y149 => (if x21 < x8 then (if x21 < (x128001.length : Int) then (epitomelaw11_OverGaps.j3 k x8 x10 x19 x21 x22 (!(rdOf false x128001 x21)) x120000 x120001 x128000 x128001 x136000 x136001 y149 x144001) else (none)) else (epitomelaw11_OverGaps.j3 k x8 x10 x19 x21 x22 false x120000 x120001 x128000 x128001 x136000 x136001 y149 x144001))) else (none)) else (none)) else (none)) else (none)) else (none))
def epitomelaw11_OverGaps.j3 : Nat → Int → List (S26) → Int → Int → Int → Bool → List ByteArray → List Bool → List ByteArray → List Bool → List ByteArray → List Bool → List ByteArray → List Bool → Option (Bool)
  | 0, _, _, _, _, _, _, _, _, _, _, _, _, _, _ => none
  | k + 1, x8, x10, x19, x21, x22, x150, x120000, x120001, x128000, x128001, x136000, x136001, x144000, x144001 => if x150 = true then (if x22 ≥ x19 then (some false) else (if 0 ≤ x21 then (if x21 < (x120001.length : Int) then (if 0 ≤ x22 then (if x22 < (x144001.length : Int) then (epitomelaw11_OverGaps.l0 k x8 x10 x19 (wrap64 (x21 + 1)) x120000 x120001 x128000 x128001 x136000 x136001 x144000 (x144001.set (x22 : Int).toNat (rdOf false x120001 x21))) else (none)) else (none)) else (none)) else (none))) else (epitomelaw11_OverGaps.l0 k x8 x10 x19 (wrap64 (x21 + 1)) x120000 x120001 x128000 x128001 x136000 x136001 x144000 x144001)
end
def epitomelaw11_OverGaps.f (k : Nat) (l0 : List (S26)) (l1 : List (S26)) (a2 : Int) : Option (Bool) := (epitomelaw11_shown.f k).bind fun t101 => ((epitomeref04_Fit.f k l0 (wrap64 (Int.tmod a2 64))).bind fun t102 => ((epitomeref04_Fit.f k l1 (wrap64 (Int.tmod a2 64))).bind fun t105 => ((over_Of.f k t102 t105).bind fun bt108 => ((gaps_Of.f k t102).bind fun bt112 => ((gaps_Of.f k t105).bind fun bt120 => ((gaps_Of.f k bt108.1).bind fun bt128 => (if t101 = true then (if bt108.2 = 0 then (if bt112.2.2 = 0 then (if bt120.2.2 = 0 then (if bt128.2.2 = 0 then (if (bt112.2.1.length : Int) = (wrap64 (Int.tmod a2 64)) then (if (bt120.2.1.length : Int) = (wrap64 (Int.tmod a2 64)) then (epitomelaw11_OverGaps.j0 k (wrap64 (Int.tmod a2 64)) t105 ((bt112.1.length : Int) != (wrap64 ((wrap64 (Int.tmod a2 64)) + 1))) bt112.1 bt112.2.1 bt120.1 bt120.2.1 bt128.1 bt128.2.1) else (epitomelaw11_OverGaps.j0 k (wrap64 (Int.tmod a2 64)) t105 true bt112.1 bt112.2.1 bt120.1 bt120.2.1 bt128.1 bt128.2.1)) else (epitomelaw11_OverGaps.j0 k (wrap64 (Int.tmod a2 64)) t105 true bt112.1 bt112.2.1 bt120.1 bt120.2.1 bt128.1 bt128.2.1)) else (epitomelaw11_OverGaps.j0 k (wrap64 (Int.tmod a2 64)) t105 true bt112.1 bt112.2.1 bt120.1 bt120.2.1 bt128.1 bt128.2.1)) else (epitomelaw11_OverGaps.j0 k (wrap64 (Int.tmod a2 64)) t105 true bt112.1 bt112.2.1 bt120.1 bt120.2.1 bt128.1 bt128.2.1)) else (epitomelaw11_OverGaps.j0 k (wrap64 (Int.tmod a2 64)) t105 true bt112.1 bt112.2.1 bt120.1 bt120.2.1 bt128.1 bt128.2.1)) else (epitomelaw11_OverGaps.j0 k (wrap64 (Int.tmod a2 64)) t105 true bt112.1 bt112.2.1 bt120.1 bt120.2.1 bt128.1 bt128.2.1)) else (epitomelaw11_OverGaps.j0 k (wrap64 (Int.tmod a2 64)) t105 true bt112.1 bt112.2.1 bt120.1 bt120.2.1 bt128.1 bt128.2.1))))))))
theorem epitomelaw11_OverGaps.mono_l : ∀ k, (∀ y0 y1 y2 y3 y4 y5 y6 y7 y8, LeO (epitomelaw11_OverGaps.j0 k y0 y1 y2 y3 y4 y5 y6 y7 y8) (epitomelaw11_OverGaps.j0 (k + 1) y0 y1 y2 y3 y4 y5 y6 y7 y8)) ∧ (∀ y0 y1 y2 y3 y4 y5 y6 y7 y8 y9 y10 y11, LeO (epitomelaw11_OverGaps.l0 k y0 y1 y2 y3 y4 y5 y6 y7 y8 y9 y10 y11) (epitomelaw11_OverGaps.l0 (k + 1) y0 y1 y2 y3 y4 y5 y6 y7 y8 y9 y10 y11)) ∧ (∀ y0 y1 y2 y3 y4 y5 y6 y7 y8 y9 y10 y11 y12 y13, LeO (epitomelaw11_OverGaps.j2 k y0 y1 y2 y3 y4 y5 y6 y7 y8 y9 y10 y11 y12 y13) (epitomelaw11_OverGaps.j2 (k + 1) y0 y1 y2 y3 y4 y5 y6 y7 y8 y9 y10 y11 y12 y13)) ∧ (∀ y0 y1 y2 y3 y4 y5 y6 y7 y8 y9 y10 y11 y12 y13, LeO (epitomelaw11_OverGaps.j3 k y0 y1 y2 y3 y4 y5 y6 y7 y8 y9 y10 y11 y12 y13) (epitomelaw11_OverGaps.j3 (k + 1) y0 y1 y2 y3 y4 y5 y6 y7 y8 y9 y10 y11 y12 y13))
  | 0 => ⟨fun _ _ _ _ _ _ _ _ _ r h => by simp [epitomelaw11_OverGaps.j0] at h, fun _ _ _ _ _ _ _ _ _ _ _ _ r h => by simp [epitomelaw11_OverGaps.l0] at h, fun _ _ _ _ _ _ _ _ _ _ _ _ _ _ r h => by simp [epitomelaw11_OverGaps.j2] at h, fun _ _ _ _ _ _ _ _ _ _ _ _ _ _ r h => by simp [epitomelaw11_OverGaps.j3] at h⟩
  | k + 1 => by
    obtain ⟨ih0, ih1, ih2, ih3⟩ := epitomelaw11_OverGaps.mono_l k
    refine ⟨?_, ?_, ?_, ?_⟩
    · intro y0 y1 y2 y3 y4 y5 y6 y7 y8
      unfold epitomelaw11_OverGaps.j0
      repeat' first
      | (with_reducible exact ih0 _ _ _ _ _ _ _ _ _)
      | (with_reducible exact ih1 _ _ _ _ _ _ _ _ _ _ _ _)
      | (with_reducible exact ih2 _ _ _ _ _ _ _ _ _ _ _ _ _ _)
      | (with_reducible exact ih3 _ _ _ _ _ _ _ _ _ _ _ _ _ _)
      | (with_reducible exact epitomelaw11_shown.mono _)
      | (with_reducible exact epitomeref04_Fit.mono _ _ _)
      | (with_reducible exact epitomeref06_Same.mono _ _ _ _ _)
      | (with_reducible exact gaps_Of.mono _ _)
      | (with_reducible exact op_Out.mono _ _)
      | (with_reducible exact over_Of.mono _ _ _)
      | (with_reducible exact place_Where.mono _ _ _)
      | (with_reducible exact LeO.refl _)
      | (with_reducible exact LeO.none _)
      | (with_reducible refine LeO.ite ?_ ?_)
      | (with_reducible refine LeO.bind ?_ (fun _ => ?_))
      | exact ih0 _ _ _ _ _ _ _ _ _
      | exact ih1 _ _ _ _ _ _ _ _ _ _ _ _
      | exact ih2 _ _ _ _ _ _ _ _ _ _ _ _ _ _
      | exact ih3 _ _ _ _ _ _ _ _ _ _ _ _ _ _
      | exact epitomelaw11_shown.mono _
      | exact epitomeref04_Fit.mono _ _ _
      | exact epitomeref06_Same.mono _ _ _ _ _
      | exact gaps_Of.mono _ _
      | exact op_Out.mono _ _
      | exact over_Of.mono _ _ _
      | exact place_Where.mono _ _ _
      | exact LeO.none _
      | refine LeO.ite ?_ ?_
      | refine LeO.bind ?_ (fun _ => ?_)
    · intro y0 y1 y2 y3 y4 y5 y6 y7 y8 y9 y10 y11
      unfold epitomelaw11_OverGaps.l0
      repeat' first
      | (with_reducible exact ih0 _ _ _ _ _ _ _ _ _)
      | (with_reducible exact ih1 _ _ _ _ _ _ _ _ _ _ _ _)
      | (with_reducible exact ih2 _ _ _ _ _ _ _ _ _ _ _ _ _ _)
      | (with_reducible exact ih3 _ _ _ _ _ _ _ _ _ _ _ _ _ _)
      | (with_reducible exact epitomelaw11_shown.mono _)
      | (with_reducible exact epitomeref04_Fit.mono _ _ _)
      | (with_reducible exact epitomeref06_Same.mono _ _ _ _ _)
      | (with_reducible exact gaps_Of.mono _ _)
      | (with_reducible exact op_Out.mono _ _)
      | (with_reducible exact over_Of.mono _ _ _)
      | (with_reducible exact place_Where.mono _ _ _)
      | (with_reducible exact LeO.refl _)
      | (with_reducible exact LeO.none _)
      | (with_reducible refine LeO.ite ?_ ?_)
      | (with_reducible refine LeO.bind ?_ (fun _ => ?_))
      | exact ih0 _ _ _ _ _ _ _ _ _
      | exact ih1 _ _ _ _ _ _ _ _ _ _ _ _
      | exact ih2 _ _ _ _ _ _ _ _ _ _ _ _ _ _
      | exact ih3 _ _ _ _ _ _ _ _ _ _ _ _ _ _
      | exact epitomelaw11_shown.mono _
      | exact epitomeref04_Fit.mono _ _ _
      | exact epitomeref06_Same.mono _ _ _ _ _
      | exact gaps_Of.mono _ _
      | exact op_Out.mono _ _
      | exact over_Of.mono _ _ _
      | exact place_Where.mono _ _ _
      | exact LeO.none _
      | refine LeO.ite ?_ ?_
      | refine LeO.bind ?_ (fun _ => ?_)
    · intro y0 y1 y2 y3 y4 y5 y6 y7 y8 y9 y10 y11 y12 y13
      unfold epitomelaw11_OverGaps.j2
      repeat' first
      | (with_reducible exact ih0 _ _ _ _ _ _ _ _ _)
      | (with_reducible exact ih1 _ _ _ _ _ _ _ _ _ _ _ _)
      | (with_reducible exact ih2 _ _ _ _ _ _ _ _ _ _ _ _ _ _)
      | (with_reducible exact ih3 _ _ _ _ _ _ _ _ _ _ _ _ _ _)
      | (with_reducible exact epitomelaw11_shown.mono _)
      | (with_reducible exact epitomeref04_Fit.mono _ _ _)
      | (with_reducible exact epitomeref06_Same.mono _ _ _ _ _)
      | (with_reducible exact gaps_Of.mono _ _)
      | (with_reducible exact op_Out.mono _ _)
      | (with_reducible exact over_Of.mono _ _ _)
      | (with_reducible exact place_Where.mono _ _ _)
      | (with_reducible exact LeO.refl _)
      | (with_reducible exact LeO.none _)
      | (with_reducible refine LeO.ite ?_ ?_)
      | (with_reducible refine LeO.bind ?_ (fun _ => ?_))
      | exact ih0 _ _ _ _ _ _ _ _ _
      | exact ih1 _ _ _ _ _ _ _ _ _ _ _ _
      | exact ih2 _ _ _ _ _ _ _ _ _ _ _ _ _ _
      | exact ih3 _ _ _ _ _ _ _ _ _ _ _ _ _ _
      | exact epitomelaw11_shown.mono _
      | exact epitomeref04_Fit.mono _ _ _
      | exact epitomeref06_Same.mono _ _ _ _ _
      | exact gaps_Of.mono _ _
      | exact op_Out.mono _ _
      | exact over_Of.mono _ _ _
      | exact place_Where.mono _ _ _
      | exact LeO.none _
      | refine LeO.ite ?_ ?_
      | refine LeO.bind ?_ (fun _ => ?_)
    · intro y0 y1 y2 y3 y4 y5 y6 y7 y8 y9 y10 y11 y12 y13
      unfold epitomelaw11_OverGaps.j3
      repeat' first
      | (with_reducible exact ih0 _ _ _ _ _ _ _ _ _)
      | (with_reducible exact ih1 _ _ _ _ _ _ _ _ _ _ _ _)
      | (with_reducible exact ih2 _ _ _ _ _ _ _ _ _ _ _ _ _ _)
      | (with_reducible exact ih3 _ _ _ _ _ _ _ _ _ _ _ _ _ _)
      | (with_reducible exact epitomelaw11_shown.mono _)
      | (with_reducible exact epitomeref04_Fit.mono _ _ _)
      | (with_reducible exact epitomeref06_Same.mono _ _ _ _ _)
      | (with_reducible exact gaps_Of.mono _ _)
      | (with_reducible exact op_Out.mono _ _)
      | (with_reducible exact over_Of.mono _ _ _)
      | (with_reducible exact place_Where.mono _ _ _)
      | (with_reducible exact LeO.refl _)
      | (with_reducible exact LeO.none _)
      | (with_reducible refine LeO.ite ?_ ?_)
      | (with_reducible refine LeO.bind ?_ (fun _ => ?_))
      | exact ih0 _ _ _ _ _ _ _ _ _
      | exact ih1 _ _ _ _ _ _ _ _ _ _ _ _
      | exact ih2 _ _ _ _ _ _ _ _ _ _ _ _ _ _
      | exact ih3 _ _ _ _ _ _ _ _ _ _ _ _ _ _
      | exact epitomelaw11_shown.mono _
      | exact epitomeref04_Fit.mono _ _ _
      | exact epitomeref06_Same.mono _ _ _ _ _
      | exact gaps_Of.mono _ _
      | exact op_Out.mono _ _
      | exact over_Of.mono _ _ _
      | exact place_Where.mono _ _ _
      | exact LeO.none _
      | refine LeO.ite ?_ ?_
      | refine LeO.bind ?_ (fun _ => ?_)
def epitomelaw11_OverGaps.T12 : Bool × List (List Nat × List Nat) := (true, [([], []), ([0], [0]), ([1, 1], [1]), ([], []), ([3, 3], [3]), ([2, 4], [2, 4]), ([], []), ([6, 5, 0, 1, 2, 3, 4, 5, 6], [5, 6])])
def epitomelaw11_OverGaps.B12 : List Nat := [0, 1, 3, 0, 8, 31, 0, 127]
theorem epitomelaw11_OverGaps.tab12 : rtab .any (opsOf Tryd.f7 12) = epitomelaw11_OverGaps.T12 := by kernel_rfl
theorem epitomelaw11_OverGaps.bits12 : waitsOk epitomelaw11_OverGaps.T12.2 epitomelaw11_OverGaps.B12 = true := by kernel_rfl
def epitomelaw11_OverGaps.T19 : Bool × List (List Nat × List Nat) := (true, [([], []), ([0], [0]), ([], []), ([], []), ([3], [3]), ([], []), ([4, 5], [4, 5]), ([6], [6]), ([], []), ([8], [8]), ([], []), ([9, 10], [9, 10]), ([11], [11]), ([7, 12], [7, 12]), ([1, 2, 0, 1, 2, 3, 4, 5, 6, 7, 8, 9, 10, 11, 12, 13], [1, 2]), ([14, 13, 0, 1, 2, 3, 4, 5, 6, 7, 8, 9, 10, 11, 12, 13], [13, 14])])
def epitomelaw11_OverGaps.B19 : List Nat := [0, 1, 0, 0, 8, 0, 56, 120, 0, 256, 0, 1792, 3840, 8184, 16383, 32767]
theorem epitomelaw11_OverGaps.tab19 : rtab .any (opsOf Tryd.f7 19) = epitomelaw11_OverGaps.T19 := by kernel_rfl
theorem epitomelaw11_OverGaps.bits19 : waitsOk epitomelaw11_OverGaps.T19.2 epitomelaw11_OverGaps.B19 = true := by kernel_rfl
def epitomelaw11_OverGaps.T23 : Bool × List (List Nat × List Nat) := (true, [([], []), ([0], [0]), ([], []), ([], []), ([3], [3]), ([], []), ([4, 5], [4, 5]), ([6], [6]), ([1, 2, 0, 1, 2, 3, 4, 5, 6, 7], [1, 2]), ([8, 7, 0, 1, 2, 3, 4, 5, 6, 7], [7, 8])])
def epitomelaw11_OverGaps.B23 : List Nat := [0, 1, 0, 0, 8, 0, 56, 120, 255, 511]
theorem epitomelaw11_OverGaps.tab23 : rtab .any (opsOf Tryd.f7 23) = epitomelaw11_OverGaps.T23 := by kernel_rfl
theorem epitomelaw11_OverGaps.bits23 : waitsOk epitomelaw11_OverGaps.T23.2 epitomelaw11_OverGaps.B23 = true := by kernel_rfl
set_option maxHeartbeats 40000000 in
set_option maxRecDepth 100000 in
theorem epitomelaw11_OverGaps.calls (k : Nat) (A0 : Option Addr) (c0 : Nat) (l0 : List (S26)) (A1 : Option Addr) (c1 : Nat) (l1 : List (S26)) (a2 : Int) (r : Bool) (hr_ : Aside0 (r = true)) (w : World) (hG : Glob w) (hr0 : Kd.C k26 w A0 l0.length l0) (hc0 : l0.length ≤ c0) (hr1 : Kd.C k26 w A1 l1.length l1) (hc1 : l1.length ≤ c1) (h : epitomelaw11_OverGaps.f k l0 l1 a2 = some r) :
  Calls Tryd.prog 7 #[.slice A0 l0.length c0, .slice A1 l1.length c1, .int .u8 a2] w fun e w' => e = .returned (.bool r) ∧ Below w.heap.size w w' := by
 have hu49 := Tryd.underlying49
 have HG := Am hG;clear hG;have HR0 := Am hr0;have HC0 := Am hc0;clear hr0 hc0;have HR1 := Am hr1;have HC1 := Am hc1;clear hr1 hc1;have HB := Am (Below.refl w.heap.size w)
 have H : ((epitomelaw11_shown.f k).bind fun t101 => ((epitomeref04_Fit.f k l0 (wrap64 (Int.tmod a2 64))).bind fun t102 => ((epitomeref04_Fit.f k l1 (wrap64 (Int.tmod a2 64))).bind fun t105 => ((over_Of.f k t102 t105).bind fun bt108 => ((gaps_Of.f k t102).bind fun bt112 => ((gaps_Of.f k t105).bind fun bt120 => ((gaps_Of.f k bt108.1).bind fun bt128 => (if t101 = true then (if bt108.2 = 0 then (if bt112.2.2 = 0 then (if bt120.2.2 = 0 then (if bt128.2.2 = 0 then (if (bt112.2.1.length : Int) = (wrap64 (Int.tmod a2 64)) then (if (bt120.2.1.length : Int) = (wrap64 (Int.tmod a2 64)) then (epitomelaw11_OverGaps.j0 k (wrap64 (Int.tmod a2 64)) t105 ((bt112.1.length : Int) != (wrap64 ((wrap64 (Int.tmod a2 64)) + 1))) bt112.1 bt112.2.1 bt120.1 bt120.2.1 bt128.1 bt128.2.1) else (epitomelaw11_OverGaps.j0 k (wrap64 (Int.tmod a2 64)) t105 true bt112.1 bt112.2.1 bt120.1 bt120.2.1 bt128.1 bt128.2.1)) else (epitomelaw11_OverGaps.j0 k (wrap64 (Int.tmod a2 64)) t105 true bt112.1 bt112.2.1 bt120.1 bt120.2.1 bt128.1 bt128.2.1)) else (epitomelaw11_OverGaps.j0 k (wrap64 (Int.tmod a2 64)) t105 true bt112.1 bt112.2.1 bt120.1 bt120.2.1 bt128.1 bt128.2.1)) else (epitomelaw11_OverGaps.j0 k (wrap64 (Int.tmod a2 64)) t105 true bt112.1 bt112.2.1 bt120.1 bt120.2.1 bt128.1 bt128.2.1)) else (epitomelaw11_OverGaps.j0 k (wrap64 (Int.tmod a2 64)) t105 true bt112.1 bt112.2.1 bt120.1 bt120.2.1 bt128.1 bt128.2.1)) else (epitomelaw11_OverGaps.j0 k (wrap64 (Int.tmod a2 64)) t105 true bt112.1 bt112.2.1 bt120.1 bt120.2.1 bt128.1 bt128.2.1)) else (epitomelaw11_OverGaps.j0 k (wrap64 (Int.tmod a2 64)) t105 true bt112.1 bt112.2.1 bt120.1 bt120.2.1 bt128.1 bt128.2.1))))))))) = some r := h
 clear h;replace H := Option.bind_eq_some_iff.mp H;obtain ⟨t101, A40, H⟩ := H;have A4 := Am A40;clear A40;replace H := Option.bind_eq_some_iff.mp H;obtain ⟨t102, A50, H⟩ := H;have A5 := Am A50;clear A50;replace H := Option.bind_eq_some_iff.mp H;obtain ⟨t105, A60, H⟩ := H;have A6 := Am A60;clear A60;replace H := Option.bind_eq_some_iff.mp H;obtain ⟨⟨t108, t109⟩, A70, H⟩ := H;have A7 := Am A70;clear A70;replace H := Option.bind_eq_some_iff.mp H;obtain ⟨⟨t112, t115, t118⟩, A80, H⟩ := H;have A8 := Am A80;clear A80;replace H := Option.bind_eq_some_iff.mp H;obtain ⟨⟨t120, t123, t126⟩, A90, H⟩ := H;have A9 := Am A90;clear A90;replace H := Option.bind_eq_some_iff.mp H;obtain ⟨⟨t128, t131, t134⟩, A100, H⟩ := H;have A10 := Am A100;clear A100;have HC11 := Am H;clear H;go_enter Tryd.func7, Tryd.ntmps7
 go_upto_region 9 with (first | ((with_reducible refine gate_callee (f := 29) rfl ?_); refine goesL_ (some 24) rfl rfl Tryd.func29 (by kernel_rfl) rfl #[] rfl zE ?_; (with_reducible refine (epitomelaw11_shown.calls k  t101 _ ?side1 A4.out).mono ?_); (case side1 => exact zg HG HB); rintro e w12 ⟨rfl, hb⟩; refine ⟨_, rfl, ?_⟩; replace HB := Am (below_step (zB HB) hb); (try clear hb)) | ((with_reducible refine gate_callee (f := 20) rfl ?_); refine goesL_ (some 30) rfl rfl Tryd.func20 (by kernel_rfl) rfl #[.slice A0 l0.length c0, .int .i64 (wrap64 (Int.tmod a2 64))] rfl zE ?_; (with_reducible refine (epitomeref04_Fit.calls k _ _ l0 (wrap64 (Int.tmod a2 64)) t102 _ ?side1 ?side2 A5.out).mono ?_); (case side1 => exact zI (C_below HR0.out HB.out)); (case side2 => exact HC0.out); rintro e w13 ⟨v103, rfl, ho0, hb⟩; refine ⟨_, rfl, ?_⟩; have HO104 := Am (R_lower ho0 (below_size (zB HB)));replace HB := Am (below_step (zB HB) hb); (try clear hb); (try clear ho0)) | ((with_reducible refine gate_callee (f := 20) rfl ?_); refine goesL_ (some 33) rfl rfl Tryd.func20 (by kernel_rfl) rfl #[.slice A1 l1.length c1, .int .i64 (wrap64 (Int.tmod a2 64))] rfl zE ?_; (with_reducible refine (epitomeref04_Fit.calls k _ _ l1 (wrap64 (Int.tmod a2 64)) t105 _ ?side1 ?side2 A6.out).mono ?_); (case side1 => exact zI (C_below HR1.out HB.out)); (case side2 => exact HC1.out); rintro e w14 ⟨v106, rfl, ho0, hb⟩; refine ⟨_, rfl, ?_⟩; have HO107 := Am (R_lower (zn ho0 HO104) (below_size (zB HB)));replace HO104 := Am (zr HO104 ho0 hb);replace HB := Am (below_step (zB HB) hb); (try clear hb); (try clear ho0); obtain ⟨Ao15, co15, eo15⟩ := R_slice HO104.out; subst eo15; obtain ⟨Ao16, co16, eo16⟩ := R_slice HO107.out; subst eo16) | ((with_reducible refine gate_callee (f := 15) rfl ?_); refine goesL_ (some 37) rfl rfl Tryd.func15 (by kernel_rfl) rfl #[.slice Ao15 t102.length co15, .slice Ao16 t105.length co16] rfl zE ?_; (with_reducible refine (over_Of.calls k _ _ t102 _ _ t105 t108 t109 _ ?side1 ?side2 ?side3 ?side4 ?side5 A7.out).mono ?_); (case side1 => exact zg HG HB); (case side2 => exact zI (R_reads' HO104.out).2.2); (case side3 => exact (R_reads' HO104.out).2.1); (case side4 => exact zI (R_reads' HO107.out).2.2); (case side5 => exact (R_reads' HO107.out).2.1); rintro e w17 ⟨v110, rfl, ho0, hb⟩; refine ⟨_, rfl, ?_⟩; have HO111 := Am (R_lower (zn (zn ho0 HO104) HO107) (below_size (zB HB)));replace HO104 := Am (zr HO104 ho0 hb);replace HO107 := Am (zr HO107 ho0 hb);replace HB := Am (below_step (zB HB) hb); (try clear hb); (try clear ho0)) | ((with_reducible refine gate_callee (f := 31) rfl ?_); refine goesL_ (some 42) rfl rfl Tryd.func31 (by kernel_rfl) rfl #[.slice Ao15 t102.length co15] rfl zE ?_; (with_reducible refine (gaps_Of.calls k _ _ t102 t112 t115 t118 _ ?side1 ?side2 ?side3 A8.out).mono ?_); (case side1 => exact zg HG HB); (case side2 => exact zI (R_reads' HO104.out).2.2); (case side3 => exact (R_reads' HO104.out).2.1); rintro e w18 ⟨v113, v116, rfl, ho0, ho1, hb⟩; refine ⟨_, rfl, ?_⟩; have HO114 := Am (Kd.V_lower (Kd.V_mono (ok' := fun k_ => some k_ ≠ (.slice Ao15 t102.length co15 : Value).ownBlock ∧ some k_ ≠ (.slice Ao16 t105.length co16 : Value).ownBlock ∧ some k_ ≠ (v110 : Value).ownBlock) ho0 (fun k_ hk_ => ⟨(Kd.fresh' (R_lt (zR HO104)) k_ hk_), (Kd.fresh' (R_lt (zR HO107)) k_ hk_), (Kd.fresh' (R_lt (zR HO111)) k_ hk_)⟩)) (below_size (zB HB)));have HO117 := Am (Kd.V_lower (Kd.V_mono (ok' := fun k_ => some k_ ≠ (.slice Ao15 t102.length co15 : Value).ownBlock ∧ some k_ ≠ (.slice Ao16 t105.length co16 : Value).ownBlock ∧ some k_ ≠ (v110 : Value).ownBlock) ho1 (fun k_ hk_ => ⟨(Kd.fresh' (R_lt (zR HO104)) k_ hk_), (Kd.fresh' (R_lt (zR HO107)) k_ hk_), (Kd.fresh' (R_lt (zR HO111)) k_ hk_)⟩)) (below_size (zB HB)));replace HO104 := Am (R_below (zR HO104) hb);replace HO107 := Am (R_below (zR HO107) hb);replace HO111 := Am (R_below (zR HO111) hb);replace HB := Am (below_step (zB HB) hb); (try clear hb); (try clear ho0); (try clear ho1)) | ((with_reducible refine gate_dst (N := 13) rfl ?_); (try (refine gate_guard (by rfl) ?_; dsimp only)); refine box_event ?hg (N := 13) ?hd (cs := #[.slice none 0 0, .slice none 0 0]) (t := 49) ?hr ?_; (case hd => rfl); (case hg => rfl); (case hr => first | (go_simp; done) | (go_simp; rfl)); intro gb119 hg w19 hbox hb; replace HO104 := Am (R_below (zR HO104) hb);replace HO107 := Am (R_below (zR HO107) hb);replace HO111 := Am (R_below (zR HO111) hb);replace HO114 := Am (Kd.V_below (Kd.V_elderB (zV HO114) gb119 (Nat.le_of_eq hg.symm)) hb);replace HO117 := Am (Kd.V_below (Kd.V_elderB (zV HO117) gb119 (Nat.le_of_eq hg.symm)) hb);have BK119 := Am (hbox);have GW119 := Am (zO (w := w) HB hg);have GE119 := Am (zO (w := w) HB hg);replace HB := Am (below_step (zB HB) hb); clear hb hbox hg; obtain ⟨Ao20, co20, eo20⟩ := Kd.V_slice HO114.out; subst eo20; obtain ⟨hcz21_0, hcz21_1, hfz21_0, hfz21_1⟩ := zc2 BK119; obtain ⟨Ao22, co22, eo22⟩ := Kd.V_slice HO117.out; subst eo22) | ((with_reducible refine gate_callee (f := 31) rfl ?_); refine goesL_ (some 47) rfl rfl Tryd.func31 (by kernel_rfl) rfl #[.slice Ao16 t105.length co16] rfl zE ?_; (with_reducible refine (gaps_Of.calls k _ _ t105 t120 t123 t126 _ ?side1 ?side2 ?side3 A9.out).mono ?_); (case side1 => exact zg HG HB); (case side2 => refine (R_reads' (e := 26) (base := w.heap.size) (ok := fun k_ => ((True ∧ some k_ ≠ (.slice Ao15 t102.length co15 : Value).ownBlock) ∧ some k_ ≠ (v110 : Value).ownBlock)) (n := t105.length) (c := co16) ?_).2.2; exact (by (with_reducible repeat (first | apply zA.a | apply zA.n | apply zA.d)); exact (R_mono (R_far (p := ⟨gb119, 1, none⟩) (R_far (p := ⟨gb119, 0, none⟩) (R_types HO107.out BK119.out (by decide)) (fun _ hk => hk.2) (.slice Ao20 t112.length co20)) (fun _ hk => hk.2) (.slice Ao22 t115.length co22)) (fun _ h_ => h_.1)))); (case side3 => exact (R_reads' HO107.out).2.1); rintro e w23 ⟨v121, v124, rfl, ho0, ho1, hb⟩; refine ⟨_, rfl, ?_⟩; replace HO114 := Am (Kd.V_below (by (with_reducible repeat (first | apply Kd.V_alloc | apply Kd.V_drewN | apply Kd.V_drew)); exact (Kd.V_mono (Kd.V_far (p := ⟨gb119, 1, none⟩) (Kd.V_far (p := ⟨gb119, 0, none⟩) (Kd.V_mono HO114.out (zq gb119)) (fun _ hk => hk.2) (.slice Ao20 t112.length co20)) (fun _ hk => hk.2) (.slice Ao22 t115.length co22)) (fun _ h_ => h_.1))) hb);replace HO117 := Am (Kd.V_below (by (with_reducible repeat (first | apply Kd.V_alloc | apply Kd.V_drewN | apply Kd.V_drew)); exact (Kd.V_mono (Kd.V_far (p := ⟨gb119, 1, none⟩) (Kd.V_far (p := ⟨gb119, 0, none⟩) (Kd.V_mono HO117.out (zq gb119)) (fun _ hk => hk.2) (.slice Ao20 t112.length co20)) (fun _ hk => hk.2) (.slice Ao22 t115.length co22)) (fun _ h_ => h_.1))) hb);have HO122 := Am (Kd.V_lower (Kd.V_mono (ok' := fun k_ => some k_ ≠ (.slice Ao15 t102.length co15 : Value).ownBlock ∧ some k_ ≠ (.slice Ao16 t105.length co16 : Value).ownBlock ∧ some k_ ≠ (v110 : Value).ownBlock ∧ k_ ≠ gb119) ho0 (fun k_ hk_ => ⟨(Kd.fresh' (R_lt (by (with_reducible repeat (first | apply zA.a | apply zA.n | apply zA.d)); exact (R_mono (R_far (p := ⟨gb119, 1, none⟩) (R_far (p := ⟨gb119, 0, none⟩) (R_types HO104.out BK119.out (by decide)) (fun _ hk => hk.2) (.slice Ao20 t112.length co20)) (fun _ hk => hk.2) (.slice Ao22 t115.length co22)) (fun _ h_ => h_.1)))) k_ hk_), (Kd.fresh' (R_lt (by (with_reducible repeat (first | apply zA.a | apply zA.n | apply zA.d)); exact (R_mono (R_far (p := ⟨gb119, 1, none⟩) (R_far (p := ⟨gb119, 0, none⟩) (R_types HO107.out BK119.out (by decide)) (fun _ hk => hk.2) (.slice Ao20 t112.length co20)) (fun _ hk => hk.2) (.slice Ao22 t115.length co22)) (fun _ h_ => h_.1)))) k_ hk_), (Kd.fresh' (R_lt (by (with_reducible repeat (first | apply zA.a | apply zA.n | apply zA.d)); exact (R_mono (R_far (p := ⟨gb119, 1, none⟩) (R_far (p := ⟨gb119, 0, none⟩) (R_types HO111.out BK119.out (by decide)) (fun _ hk => hk.2) (.slice Ao20 t112.length co20)) (fun _ hk => hk.2) (.slice Ao22 t115.length co22)) (fun _ h_ => h_.1)))) k_ hk_), (Kd.freshB (g := gb119) (o := .cells #[.slice Ao20 t112.length co20, .slice Ao22 t115.length co22] 49 (0, 0)) (zP BK119) k_ hk_)⟩)) (below_size (zB HB)));have HO125 := Am (Kd.V_lower (Kd.V_mono (ok' := fun k_ => some k_ ≠ (.slice Ao15 t102.length co15 : Value).ownBlock ∧ some k_ ≠ (.slice Ao16 t105.length co16 : Value).ownBlock ∧ some k_ ≠ (v110 : Value).ownBlock ∧ k_ ≠ gb119) ho1 (fun k_ hk_ => ⟨(Kd.fresh' (R_lt (by (with_reducible repeat (first | apply zA.a | apply zA.n | apply zA.d)); exact (R_mono (R_far (p := ⟨gb119, 1, none⟩) (R_far (p := ⟨gb119, 0, none⟩) (R_types HO104.out BK119.out (by decide)) (fun _ hk => hk.2) (.slice Ao20 t112.length co20)) (fun _ hk => hk.2) (.slice Ao22 t115.length co22)) (fun _ h_ => h_.1)))) k_ hk_), (Kd.fresh' (R_lt (by (with_reducible repeat (first | apply zA.a | apply zA.n | apply zA.d)); exact (R_mono (R_far (p := ⟨gb119, 1, none⟩) (R_far (p := ⟨gb119, 0, none⟩) (R_types HO107.out BK119.out (by decide)) (fun _ hk => hk.2) (.slice Ao20 t112.length co20)) (fun _ hk => hk.2) (.slice Ao22 t115.length co22)) (fun _ h_ => h_.1)))) k_ hk_), (Kd.fresh' (R_lt (by (with_reducible repeat (first | apply zA.a | apply zA.n | apply zA.d)); exact (R_mono (R_far (p := ⟨gb119, 1, none⟩) (R_far (p := ⟨gb119, 0, none⟩) (R_types HO111.out BK119.out (by decide)) (fun _ hk => hk.2) (.slice Ao20 t112.length co20)) (fun _ hk => hk.2) (.slice Ao22 t115.length co22)) (fun _ h_ => h_.1)))) k_ hk_), (Kd.freshB (g := gb119) (o := .cells #[.slice Ao20 t112.length co20, .slice Ao22 t115.length co22] 49 (0, 0)) (zP BK119) k_ hk_)⟩)) (below_size (zB HB)));replace HO104 := Am (R_below (by (with_reducible repeat (first | apply zA.a | apply zA.n | apply zA.d)); exact (R_mono (R_far (p := ⟨gb119, 1, none⟩) (R_far (p := ⟨gb119, 0, none⟩) (R_types HO104.out BK119.out (by decide)) (fun _ hk => hk.2) (.slice Ao20 t112.length co20)) (fun _ hk => hk.2) (.slice Ao22 t115.length co22)) (fun _ h_ => h_.1))) hb);replace HO107 := Am (R_below (by (with_reducible repeat (first | apply zA.a | apply zA.n | apply zA.d)); exact (R_mono (R_far (p := ⟨gb119, 1, none⟩) (R_far (p := ⟨gb119, 0, none⟩) (R_types HO107.out BK119.out (by decide)) (fun _ hk => hk.2) (.slice Ao20 t112.length co20)) (fun _ hk => hk.2) (.slice Ao22 t115.length co22)) (fun _ h_ => h_.1))) hb);replace HO111 := Am (R_below (by (with_reducible repeat (first | apply zA.a | apply zA.n | apply zA.d)); exact (R_mono (R_far (p := ⟨gb119, 1, none⟩) (R_far (p := ⟨gb119, 0, none⟩) (R_types HO111.out BK119.out (by decide)) (fun _ hk => hk.2) (.slice Ao20 t112.length co20)) (fun _ hk => hk.2) (.slice Ao22 t115.length co22)) (fun _ h_ => h_.1))) hb);replace BK119 := Am (blk_below (g := gb119) (o := .cells #[.slice Ao20 t112.length co20, .slice Ao22 t115.length co22] 49 (0, 0)) (zP BK119) hb);replace HB := Am (below_step (zB HB) hb); (try clear hb); (try clear ho0); (try clear ho1)) | ((with_reducible refine gate_dst (N := 15) rfl ?_); (try (refine gate_guard (by rfl) ?_; dsimp only)); refine box_event ?hg (N := 15) ?hd (cs := #[.slice none 0 0, .slice none 0 0]) (t := 49) ?hr ?_; (case hd => rfl); (case hg => rfl); (case hr => first | (go_simp; done) | (go_simp; rfl)); intro gb127 hg w24 hbox hb; replace HO104 := Am (R_below (zR HO104) hb);replace HO107 := Am (R_below (zR HO107) hb);replace HO111 := Am (R_below (zR HO111) hb);replace HO114 := Am (Kd.V_below (Kd.V_elderB (zV HO114) gb127 (Nat.le_of_eq hg.symm)) hb);replace HO117 := Am (Kd.V_below (Kd.V_elderB (zV HO117) gb127 (Nat.le_of_eq hg.symm)) hb);replace HO122 := Am (Kd.V_below (Kd.V_elderB (zV HO122) gb127 (Nat.le_of_eq hg.symm)) hb);replace HO125 := Am (Kd.V_below (Kd.V_elderB (zV HO125) gb127 (Nat.le_of_eq hg.symm)) hb);have BK127 := Am (hbox);have GW127 := Am (zO (w := w) HB hg);have GE127 := Am (zO (w := w) HB hg);replace HB := Am (below_step (zB HB) hb);have NB119_127 := Am ((by rw [hg]; exact Nat.ne_of_lt (zL BK119) : gb119 ≠ gb127));have NB127_119 := Am ((by rw [hg]; exact Nat.ne_of_gt (zL BK119) : gb127 ≠ gb119));replace BK119 := Am (zU BK119 hb); clear hb hbox hg; obtain ⟨Ao25, co25, eo25⟩ := Kd.V_slice HO122.out; subst eo25; have hnb26 := NB127_119.out; have hnc26 := NB119_127.out; obtain ⟨hcz27_0, hcz27_1, hfz27_0, hfz27_1⟩ := zc2 BK127; obtain ⟨Ao28, co28, eo28⟩ := Kd.V_slice HO125.out; subst eo28; obtain ⟨Ao29, co29, eo29⟩ := R_slice HO111.out; subst eo29) | ((with_reducible refine gate_callee (f := 31) rfl ?_); refine goesL_ (some 52) rfl rfl Tryd.func31 (by kernel_rfl) rfl #[.slice Ao29 t108.length co29] rfl zE ?_; (with_reducible refine (gaps_Of.calls k _ _ t108 t128 t131 t134 _ ?side1 ?side2 ?side3 A10.out).mono ?_); (case side1 => exact zg HG HB); (case side2 => refine (R_reads' (e := 26) (base := w.heap.size) (ok := fun k_ => ((True ∧ some k_ ≠ (.slice Ao15 t102.length co15 : Value).ownBlock) ∧ some k_ ≠ (.slice Ao16 t105.length co16 : Value).ownBlock)) (n := t108.length) (c := co29) ?_).2.2; exact (by (with_reducible repeat (first | apply zA.a | apply zA.n | apply zA.d)); exact (R_mono (R_far (p := ⟨gb127, 1, none⟩) (R_far (p := ⟨gb127, 0, none⟩) (R_types HO111.out BK127.out (by decide)) (fun _ hk => hk.2) (.slice Ao25 t120.length co25)) (fun _ hk => hk.2) (.slice Ao28 t123.length co28)) (fun _ h_ => h_.1)))); (case side3 => exact (R_reads' HO111.out).2.1); rintro e w30 ⟨v129, v132, rfl, ho0, ho1, hb⟩; refine ⟨_, rfl, ?_⟩; replace HO114 := Am (Kd.V_below (by (with_reducible repeat (first | apply Kd.V_alloc | apply Kd.V_drewN | apply Kd.V_drew)); exact (Kd.V_mono (Kd.V_far (p := ⟨gb127, 1, none⟩) (Kd.V_far (p := ⟨gb127, 0, none⟩) (Kd.V_mono HO114.out (zq gb127)) (fun _ hk => hk.2) (.slice Ao25 t120.length co25)) (fun _ hk => hk.2) (.slice Ao28 t123.length co28)) (fun _ h_ => h_.1))) hb);replace HO117 := Am (Kd.V_below (by (with_reducible repeat (first | apply Kd.V_alloc | apply Kd.V_drewN | apply Kd.V_drew)); exact (Kd.V_mono (Kd.V_far (p := ⟨gb127, 1, none⟩) (Kd.V_far (p := ⟨gb127, 0, none⟩) (Kd.V_mono HO117.out (zq gb127)) (fun _ hk => hk.2) (.slice Ao25 t120.length co25)) (fun _ hk => hk.2) (.slice Ao28 t123.length co28)) (fun _ h_ => h_.1))) hb);replace HO122 := Am (Kd.V_below (by (with_reducible repeat (first | apply Kd.V_alloc | apply Kd.V_drewN | apply Kd.V_drew)); exact (Kd.V_mono (Kd.V_far (p := ⟨gb127, 1, none⟩) (Kd.V_far (p := ⟨gb127, 0, none⟩) (Kd.V_mono HO122.out (zq gb127)) (fun _ hk => hk.2) (.slice Ao25 t120.length co25)) (fun _ hk => hk.2) (.slice Ao28 t123.length co28)) (fun _ h_ => h_.1))) hb);replace HO125 := Am (Kd.V_below (by (with_reducible repeat (first | apply Kd.V_alloc | apply Kd.V_drewN | apply Kd.V_drew)); exact (Kd.V_mono (Kd.V_far (p := ⟨gb127, 1, none⟩) (Kd.V_far (p := ⟨gb127, 0, none⟩) (Kd.V_mono HO125.out (zq gb127)) (fun _ hk => hk.2) (.slice Ao25 t120.length co25)) (fun _ hk => hk.2) (.slice Ao28 t123.length co28)) (fun _ h_ => h_.1))) hb);have HO130 := Am (Kd.V_lower (Kd.V_mono (ok' := fun k_ => some k_ ≠ (.slice Ao15 t102.length co15 : Value).ownBlock ∧ some k_ ≠ (.slice Ao16 t105.length co16 : Value).ownBlock ∧ some k_ ≠ (.slice Ao29 t108.length co29 : Value).ownBlock ∧ k_ ≠ gb119 ∧ k_ ≠ gb127) ho0 (fun k_ hk_ => ⟨(Kd.fresh' (R_lt (by (with_reducible repeat (first | apply zA.a | apply zA.n | apply zA.d)); exact (R_mono (R_far (p := ⟨gb127, 1, none⟩) (R_far (p := ⟨gb127, 0, none⟩) (R_types HO104.out BK127.out (by decide)) (fun _ hk => hk.2) (.slice Ao25 t120.length co25)) (fun _ hk => hk.2) (.slice Ao28 t123.length co28)) (fun _ h_ => h_.1)))) k_ hk_), (Kd.fresh' (R_lt (by (with_reducible repeat (first | apply zA.a | apply zA.n | apply zA.d)); exact (R_mono (R_far (p := ⟨gb127, 1, none⟩) (R_far (p := ⟨gb127, 0, none⟩) (R_types HO107.out BK127.out (by decide)) (fun _ hk => hk.2) (.slice Ao25 t120.length co25)) (fun _ hk => hk.2) (.slice Ao28 t123.length co28)) (fun _ h_ => h_.1)))) k_ hk_), (Kd.fresh' (R_lt (by (with_reducible repeat (first | apply zA.a | apply zA.n | apply zA.d)); exact (R_mono (R_far (p := ⟨gb127, 1, none⟩) (R_far (p := ⟨gb127, 0, none⟩) (R_types HO111.out BK127.out (by decide)) (fun _ hk => hk.2) (.slice Ao25 t120.length co25)) (fun _ hk => hk.2) (.slice Ao28 t123.length co28)) (fun _ h_ => h_.1)))) k_ hk_), (zm BK119 k_ hk_), (Kd.freshB (g := gb127) (o := .cells #[.slice Ao25 t120.length co25, .slice Ao28 t123.length co28] 49 (0, 0)) (zP BK127) k_ hk_)⟩)) (below_size (zB HB)));have HO133 := Am (Kd.V_lower (Kd.V_mono (ok' := fun k_ => some k_ ≠ (.slice Ao15 t102.length co15 : Value).ownBlock ∧ some k_ ≠ (.slice Ao16 t105.length co16 : Value).ownBlock ∧ some k_ ≠ (.slice Ao29 t108.length co29 : Value).ownBlock ∧ k_ ≠ gb119 ∧ k_ ≠ gb127) ho1 (fun k_ hk_ => ⟨(Kd.fresh' (R_lt (by (with_reducible repeat (first | apply zA.a | apply zA.n | apply zA.d)); exact (R_mono (R_far (p := ⟨gb127, 1, none⟩) (R_far (p := ⟨gb127, 0, none⟩) (R_types HO104.out BK127.out (by decide)) (fun _ hk => hk.2) (.slice Ao25 t120.length co25)) (fun _ hk => hk.2) (.slice Ao28 t123.length co28)) (fun _ h_ => h_.1)))) k_ hk_), (Kd.fresh' (R_lt (by (with_reducible repeat (first | apply zA.a | apply zA.n | apply zA.d)); exact (R_mono (R_far (p := ⟨gb127, 1, none⟩) (R_far (p := ⟨gb127, 0, none⟩) (R_types HO107.out BK127.out (by decide)) (fun _ hk => hk.2) (.slice Ao25 t120.length co25)) (fun _ hk => hk.2) (.slice Ao28 t123.length co28)) (fun _ h_ => h_.1)))) k_ hk_), (Kd.fresh' (R_lt (by (with_reducible repeat (first | apply zA.a | apply zA.n | apply zA.d)); exact (R_mono (R_far (p := ⟨gb127, 1, none⟩) (R_far (p := ⟨gb127, 0, none⟩) (R_types HO111.out BK127.out (by decide)) (fun _ hk => hk.2) (.slice Ao25 t120.length co25)) (fun _ hk => hk.2) (.slice Ao28 t123.length co28)) (fun _ h_ => h_.1)))) k_ hk_), (zm BK119 k_ hk_), (Kd.freshB (g := gb127) (o := .cells #[.slice Ao25 t120.length co25, .slice Ao28 t123.length co28] 49 (0, 0)) (zP BK127) k_ hk_)⟩)) (below_size (zB HB)));replace HO104 := Am (R_below (by (with_reducible repeat (first | apply zA.a | apply zA.n | apply zA.d)); exact (R_mono (R_far (p := ⟨gb127, 1, none⟩) (R_far (p := ⟨gb127, 0, none⟩) (R_types HO104.out BK127.out (by decide)) (fun _ hk => hk.2) (.slice Ao25 t120.length co25)) (fun _ hk => hk.2) (.slice Ao28 t123.length co28)) (fun _ h_ => h_.1))) hb);replace HO107 := Am (R_below (by (with_reducible repeat (first | apply zA.a | apply zA.n | apply zA.d)); exact (R_mono (R_far (p := ⟨gb127, 1, none⟩) (R_far (p := ⟨gb127, 0, none⟩) (R_types HO107.out BK127.out (by decide)) (fun _ hk => hk.2) (.slice Ao25 t120.length co25)) (fun _ hk => hk.2) (.slice Ao28 t123.length co28)) (fun _ h_ => h_.1))) hb);replace HO111 := Am (R_below (by (with_reducible repeat (first | apply zA.a | apply zA.n | apply zA.d)); exact (R_mono (R_far (p := ⟨gb127, 1, none⟩) (R_far (p := ⟨gb127, 0, none⟩) (R_types HO111.out BK127.out (by decide)) (fun _ hk => hk.2) (.slice Ao25 t120.length co25)) (fun _ hk => hk.2) (.slice Ao28 t123.length co28)) (fun _ h_ => h_.1))) hb);replace BK119 := Am (zU BK119 hb);replace BK127 := Am (blk_below (g := gb127) (o := .cells #[.slice Ao25 t120.length co25, .slice Ao28 t123.length co28] 49 (0, 0)) (zP BK127) hb);replace HB := Am (below_step (zB HB) hb); (try clear hb); (try clear ho0); (try clear ho1)) | ((with_reducible refine gate_dst (N := 17) rfl ?_); (try (refine gate_guard (by rfl) ?_; dsimp only)); refine box_event ?hg (N := 17) ?hd (cs := #[.slice none 0 0, .slice none 0 0]) (t := 49) ?hr ?_; (case hd => rfl); (case hg => rfl); (case hr => first | (go_simp; done) | (go_simp; rfl)); intro gb135 hg w31 hbox hb; replace HO104 := Am (R_below (zR HO104) hb);replace HO107 := Am (R_below (zR HO107) hb);replace HO111 := Am (R_below (zR HO111) hb);replace HO114 := Am (Kd.V_below (Kd.V_elderB (zV HO114) gb135 (Nat.le_of_eq hg.symm)) hb);replace HO117 := Am (Kd.V_below (Kd.V_elderB (zV HO117) gb135 (Nat.le_of_eq hg.symm)) hb);replace HO122 := Am (Kd.V_below (Kd.V_elderB (zV HO122) gb135 (Nat.le_of_eq hg.symm)) hb);replace HO125 := Am (Kd.V_below (Kd.V_elderB (zV HO125) gb135 (Nat.le_of_eq hg.symm)) hb);replace HO130 := Am (Kd.V_below (Kd.V_elderB (zV HO130) gb135 (Nat.le_of_eq hg.symm)) hb);replace HO133 := Am (Kd.V_below (Kd.V_elderB (zV HO133) gb135 (Nat.le_of_eq hg.symm)) hb);have BK135 := Am (hbox);have GW135 := Am (zO (w := w) HB hg);have GE135 := Am (zO (w := w) HB hg);replace HB := Am (below_step (zB HB) hb);have NB119_135 := Am ((by rw [hg]; exact Nat.ne_of_lt (zL BK119) : gb119 ≠ gb135));have NB135_119 := Am ((by rw [hg]; exact Nat.ne_of_gt (zL BK119) : gb135 ≠ gb119));replace BK119 := Am (zU BK119 hb);have NB127_135 := Am ((by rw [hg]; exact Nat.ne_of_lt (zL BK127) : gb127 ≠ gb135));have NB135_127 := Am ((by rw [hg]; exact Nat.ne_of_gt (zL BK127) : gb135 ≠ gb127));replace BK127 := Am (zU BK127 hb); clear hb hbox hg; obtain ⟨Ao32, co32, eo32⟩ := Kd.V_slice HO130.out; subst eo32; have hnb33 := NB135_119.out; have hnc33 := NB119_135.out; have hnb34 := NB135_127.out; have hnc34 := NB127_135.out; obtain ⟨hcz35_0, hcz35_1, hfz35_0, hfz35_1⟩ := zc2 BK135; obtain ⟨Ao36, co36, eo36⟩ := Kd.V_slice HO133.out; subst eo36))
 (try simp only [Act.put, zS])
 go_cut [94] (fun v94 wc => ∃ (kq : Nat) (x94_10 : Bool), v94 = .bool x94_10 ∧ Aside0 (epitomelaw11_OverGaps.j0 kq (wrap64 (Int.tmod a2 64)) t105 x94_10 t112 t115 t120 t123 t128 t131 = some r) ∧ Aside0 (kq ≤ k) ∧ Aside0 (Kd.R k26 26 wc w.heap.size (fun _ => True) (.slice Ao16 t105.length co16) t105) ∧ Aside0 (Kd.V Kd.string 9 wc w.heap.size (fun k_ => some k_ ≠ ((.slice Ao16 t105.length co16) : Value).ownBlock ∧ k_ ≠ gb119 ∧ k_ ≠ gb127 ∧ k_ ≠ gb135) (.slice Ao20 t112.length co20) t112) ∧ Aside0 (Kd.V Kd.bool 4 wc w.heap.size (fun k_ => some k_ ≠ ((.slice Ao16 t105.length co16) : Value).ownBlock ∧ k_ ≠ gb119 ∧ k_ ≠ gb127 ∧ k_ ≠ gb135) (.slice Ao22 t115.length co22) t115) ∧ Aside0 (Kd.V Kd.string 9 wc w.heap.size (fun k_ => some k_ ≠ ((.slice Ao16 t105.length co16) : Value).ownBlock ∧ k_ ≠ gb119 ∧ k_ ≠ gb127 ∧ k_ ≠ gb135) (.slice Ao25 t120.length co25) t120) ∧ Aside0 (Kd.V Kd.bool 4 wc w.heap.size (fun k_ => some k_ ≠ ((.slice Ao16 t105.length co16) : Value).ownBlock ∧ k_ ≠ gb119 ∧ k_ ≠ gb127 ∧ k_ ≠ gb135) (.slice Ao28 t123.length co28) t123) ∧ Aside0 (Kd.V Kd.string 9 wc w.heap.size (fun k_ => some k_ ≠ ((.slice Ao16 t105.length co16) : Value).ownBlock ∧ k_ ≠ gb119 ∧ k_ ≠ gb127 ∧ k_ ≠ gb135) (.slice Ao32 t128.length co32) t128) ∧ Aside0 (Kd.V Kd.bool 4 wc w.heap.size (fun k_ => some k_ ≠ ((.slice Ao16 t105.length co16) : Value).ownBlock ∧ k_ ≠ gb119 ∧ k_ ≠ gb127 ∧ k_ ≠ gb135) (.slice Ao36 t131.length co36) t131) ∧ Aside0 (wc.heap[gb119]? = some (.cells #[(.slice Ao20 t112.length co20), (.slice Ao22 t115.length co22)] 49 (0, 0))) ∧ Aside0 (wc.heap[gb127]? = some (.cells #[(.slice Ao25 t120.length co25), (.slice Ao28 t123.length co28)] 49 (0, 0))) ∧ Aside0 (wc.heap[gb135]? = some (.cells #[(.slice Ao32 t128.length co32), (.slice Ao36 t131.length co36)] 49 (0, 0))) ∧ Aside0 (Below w.heap.size w wc))
 case first =>
  have H := HC11.out;clear HC11;by_cases c37 : t101 = true
  rotate_left
  ·replace c37 := Bool.eq_false_iff.mpr c37
   subst c37
   have H1 : (epitomelaw11_OverGaps.j0 k (wrap64 (Int.tmod a2 64)) t105 true t112 t115 t120 t123 t128 t131) = some r := by rw [if_neg (show ¬ (false = true) by decide)] at H; exact H
   clear H;have H := H1
   clear H1;have H' := Am H
   clear H;go_wp2
   go_meet
   case rel => exact ⟨_, (true), zG, H', ⟨by first | omega | exact Nat.le_refl _⟩, ⟨by (with_reducible repeat (first | apply zA.a | apply zA.n | apply zA.d)); exact R_mono (R_far (p := ⟨gb135, 1, none⟩) (R_far (p := ⟨gb135, 0, none⟩) (R_types HO107.out BK135.out (by decide)) (fun _ hk => hk.2) (.slice Ao32 t128.length co32)) (fun _ hk => hk.2) (.slice Ao36 t131.length co36)) (fun _ hk => trivial)⟩, ⟨by (with_reducible repeat (first | apply Kd.V_alloc | apply Kd.V_drewN | apply Kd.V_drew)); exact Kd.V_mono (Kd.V_far (p := ⟨gb135, 1, none⟩) (Kd.V_far (p := ⟨gb135, 0, none⟩) (Kd.V_mono HO114.out (zq gb135)) (fun _ hk => hk.2) (.slice Ao32 t128.length co32)) (fun _ hk => hk.2) (.slice Ao36 t131.length co36)) zp⟩, ⟨by (with_reducible repeat (first | apply Kd.V_alloc | apply Kd.V_drewN | apply Kd.V_drew)); exact Kd.V_mono (Kd.V_far (p := ⟨gb135, 1, none⟩) (Kd.V_far (p := ⟨gb135, 0, none⟩) (Kd.V_mono HO117.out (zq gb135)) (fun _ hk => hk.2) (.slice Ao32 t128.length co32)) (fun _ hk => hk.2) (.slice Ao36 t131.length co36)) zp⟩, ⟨by (with_reducible repeat (first | apply Kd.V_alloc | apply Kd.V_drewN | apply Kd.V_drew)); exact Kd.V_mono (Kd.V_far (p := ⟨gb135, 1, none⟩) (Kd.V_far (p := ⟨gb135, 0, none⟩) (Kd.V_mono HO122.out (zq gb135)) (fun _ hk => hk.2) (.slice Ao32 t128.length co32)) (fun _ hk => hk.2) (.slice Ao36 t131.length co36)) zp⟩, ⟨by (with_reducible repeat (first | apply Kd.V_alloc | apply Kd.V_drewN | apply Kd.V_drew)); exact Kd.V_mono (Kd.V_far (p := ⟨gb135, 1, none⟩) (Kd.V_far (p := ⟨gb135, 0, none⟩) (Kd.V_mono HO125.out (zq gb135)) (fun _ hk => hk.2) (.slice Ao32 t128.length co32)) (fun _ hk => hk.2) (.slice Ao36 t131.length co36)) zp⟩, ⟨by (with_reducible repeat (first | apply Kd.V_alloc | apply Kd.V_drewN | apply Kd.V_drew)); exact Kd.V_mono (Kd.V_far (p := ⟨gb135, 1, none⟩) (Kd.V_far (p := ⟨gb135, 0, none⟩) (Kd.V_mono HO130.out (zq gb135)) (fun _ hk => hk.2) (.slice Ao32 t128.length co32)) (fun _ hk => hk.2) (.slice Ao36 t131.length co36)) zp⟩, ⟨by (with_reducible repeat (first | apply Kd.V_alloc | apply Kd.V_drewN | apply Kd.V_drew)); exact Kd.V_mono (Kd.V_far (p := ⟨gb135, 1, none⟩) (Kd.V_far (p := ⟨gb135, 0, none⟩) (Kd.V_mono HO133.out (zq gb135)) (fun _ hk => hk.2) (.slice Ao32 t128.length co32)) (fun _ hk => hk.2) (.slice Ao36 t131.length co36)) zp⟩, ⟨(zK BK119)⟩, ⟨(zK BK127)⟩, ⟨(zP BK135)⟩, ⟨(zB HB)⟩⟩
  subst c37
  have H1 : (if t109 = 0 then (if t118 = 0 then (if t126 = 0 then (if t134 = 0 then (if (t115.length : Int) = (wrap64 (Int.tmod a2 64)) then (if (t123.length : Int) = (wrap64 (Int.tmod a2 64)) then (epitomelaw11_OverGaps.j0 k (wrap64 (Int.tmod a2 64)) t105 ((t112.length : Int) != (wrap64 ((wrap64 (Int.tmod a2 64)) + 1))) t112 t115 t120 t123 t128 t131) else (epitomelaw11_OverGaps.j0 k (wrap64 (Int.tmod a2 64)) t105 true t112 t115 t120 t123 t128 t131)) else (epitomelaw11_OverGaps.j0 k (wrap64 (Int.tmod a2 64)) t105 true t112 t115 t120 t123 t128 t131)) else (epitomelaw11_OverGaps.j0 k (wrap64 (Int.tmod a2 64)) t105 true t112 t115 t120 t123 t128 t131)) else (epitomelaw11_OverGaps.j0 k (wrap64 (Int.tmod a2 64)) t105 true t112 t115 t120 t123 t128 t131)) else (epitomelaw11_OverGaps.j0 k (wrap64 (Int.tmod a2 64)) t105 true t112 t115 t120 t123 t128 t131)) else (epitomelaw11_OverGaps.j0 k (wrap64 (Int.tmod a2 64)) t105 true t112 t115 t120 t123 t128 t131)) = some r := by rw [if_pos rfl] at H; exact H
  clear H;have H := H1
  clear H1;by_cases c38 : t109 = 0
  rotate_left
  ·rw [if_neg c38] at H;have c38b0 : (t109 == 0) = false := beq_eq_false_iff_ne.mpr c38
   have c38b1 : (t109 != 0) = true := bne_iff_ne.mpr c38
   (first | rw [c38b0] | (simp only [i64_w, i32_w]; rw [c38b0]) | skip)
   have H' := Am H
   clear H;go_wp2
   go_meet
   case rel => exact ⟨_, (true), zG, H', ⟨by first | omega | exact Nat.le_refl _⟩, ⟨by (with_reducible repeat (first | apply zA.a | apply zA.n | apply zA.d)); exact R_mono (R_far (p := ⟨gb135, 1, none⟩) (R_far (p := ⟨gb135, 0, none⟩) (R_types HO107.out BK135.out (by decide)) (fun _ hk => hk.2) (.slice Ao32 t128.length co32)) (fun _ hk => hk.2) (.slice Ao36 t131.length co36)) (fun _ hk => trivial)⟩, ⟨by (with_reducible repeat (first | apply Kd.V_alloc | apply Kd.V_drewN | apply Kd.V_drew)); exact Kd.V_mono (Kd.V_far (p := ⟨gb135, 1, none⟩) (Kd.V_far (p := ⟨gb135, 0, none⟩) (Kd.V_mono HO114.out (zq gb135)) (fun _ hk => hk.2) (.slice Ao32 t128.length co32)) (fun _ hk => hk.2) (.slice Ao36 t131.length co36)) zp⟩, ⟨by (with_reducible repeat (first | apply Kd.V_alloc | apply Kd.V_drewN | apply Kd.V_drew)); exact Kd.V_mono (Kd.V_far (p := ⟨gb135, 1, none⟩) (Kd.V_far (p := ⟨gb135, 0, none⟩) (Kd.V_mono HO117.out (zq gb135)) (fun _ hk => hk.2) (.slice Ao32 t128.length co32)) (fun _ hk => hk.2) (.slice Ao36 t131.length co36)) zp⟩, ⟨by (with_reducible repeat (first | apply Kd.V_alloc | apply Kd.V_drewN | apply Kd.V_drew)); exact Kd.V_mono (Kd.V_far (p := ⟨gb135, 1, none⟩) (Kd.V_far (p := ⟨gb135, 0, none⟩) (Kd.V_mono HO122.out (zq gb135)) (fun _ hk => hk.2) (.slice Ao32 t128.length co32)) (fun _ hk => hk.2) (.slice Ao36 t131.length co36)) zp⟩, ⟨by (with_reducible repeat (first | apply Kd.V_alloc | apply Kd.V_drewN | apply Kd.V_drew)); exact Kd.V_mono (Kd.V_far (p := ⟨gb135, 1, none⟩) (Kd.V_far (p := ⟨gb135, 0, none⟩) (Kd.V_mono HO125.out (zq gb135)) (fun _ hk => hk.2) (.slice Ao32 t128.length co32)) (fun _ hk => hk.2) (.slice Ao36 t131.length co36)) zp⟩, ⟨by (with_reducible repeat (first | apply Kd.V_alloc | apply Kd.V_drewN | apply Kd.V_drew)); exact Kd.V_mono (Kd.V_far (p := ⟨gb135, 1, none⟩) (Kd.V_far (p := ⟨gb135, 0, none⟩) (Kd.V_mono HO130.out (zq gb135)) (fun _ hk => hk.2) (.slice Ao32 t128.length co32)) (fun _ hk => hk.2) (.slice Ao36 t131.length co36)) zp⟩, ⟨by (with_reducible repeat (first | apply Kd.V_alloc | apply Kd.V_drewN | apply Kd.V_drew)); exact Kd.V_mono (Kd.V_far (p := ⟨gb135, 1, none⟩) (Kd.V_far (p := ⟨gb135, 0, none⟩) (Kd.V_mono HO133.out (zq gb135)) (fun _ hk => hk.2) (.slice Ao32 t128.length co32)) (fun _ hk => hk.2) (.slice Ao36 t131.length co36)) zp⟩, ⟨(zK BK119)⟩, ⟨(zK BK127)⟩, ⟨(zP BK135)⟩, ⟨(zB HB)⟩⟩
  rw [if_pos c38] at H;have c38b0 : (t109 == 0) = true := beq_iff_eq.mpr c38
  have c38b1 : (t109 != 0) = false := bne_eq_false_iff_eq.mpr c38
  clear c38;(first | rw [c38b0] | (simp only [i64_w, i32_w]; rw [c38b0]) | skip)
  by_cases c39 : t118 = 0
  rotate_left
  ·rw [if_neg c39] at H;have c39b0 : (t118 == 0) = false := beq_eq_false_iff_ne.mpr c39
   have c39b1 : (t118 != 0) = true := bne_iff_ne.mpr c39
   have H' := Am H
   clear H;go_wp2
   go_meet
   case rel => exact ⟨_, (true), zG, H', ⟨by first | omega | exact Nat.le_refl _⟩, ⟨by (with_reducible repeat (first | apply zA.a | apply zA.n | apply zA.d)); exact R_mono (R_far (p := ⟨gb135, 1, none⟩) (R_far (p := ⟨gb135, 0, none⟩) (R_types HO107.out BK135.out (by decide)) (fun _ hk => hk.2) (.slice Ao32 t128.length co32)) (fun _ hk => hk.2) (.slice Ao36 t131.length co36)) (fun _ hk => trivial)⟩, ⟨by (with_reducible repeat (first | apply Kd.V_alloc | apply Kd.V_drewN | apply Kd.V_drew)); exact Kd.V_mono (Kd.V_far (p := ⟨gb135, 1, none⟩) (Kd.V_far (p := ⟨gb135, 0, none⟩) (Kd.V_mono HO114.out (zq gb135)) (fun _ hk => hk.2) (.slice Ao32 t128.length co32)) (fun _ hk => hk.2) (.slice Ao36 t131.length co36)) zp⟩, ⟨by (with_reducible repeat (first | apply Kd.V_alloc | apply Kd.V_drewN | apply Kd.V_drew)); exact Kd.V_mono (Kd.V_far (p := ⟨gb135, 1, none⟩) (Kd.V_far (p := ⟨gb135, 0, none⟩) (Kd.V_mono HO117.out (zq gb135)) (fun _ hk => hk.2) (.slice Ao32 t128.length co32)) (fun _ hk => hk.2) (.slice Ao36 t131.length co36)) zp⟩, ⟨by (with_reducible repeat (first | apply Kd.V_alloc | apply Kd.V_drewN | apply Kd.V_drew)); exact Kd.V_mono (Kd.V_far (p := ⟨gb135, 1, none⟩) (Kd.V_far (p := ⟨gb135, 0, none⟩) (Kd.V_mono HO122.out (zq gb135)) (fun _ hk => hk.2) (.slice Ao32 t128.length co32)) (fun _ hk => hk.2) (.slice Ao36 t131.length co36)) zp⟩, ⟨by (with_reducible repeat (first | apply Kd.V_alloc | apply Kd.V_drewN | apply Kd.V_drew)); exact Kd.V_mono (Kd.V_far (p := ⟨gb135, 1, none⟩) (Kd.V_far (p := ⟨gb135, 0, none⟩) (Kd.V_mono HO125.out (zq gb135)) (fun _ hk => hk.2) (.slice Ao32 t128.length co32)) (fun _ hk => hk.2) (.slice Ao36 t131.length co36)) zp⟩, ⟨by (with_reducible repeat (first | apply Kd.V_alloc | apply Kd.V_drewN | apply Kd.V_drew)); exact Kd.V_mono (Kd.V_far (p := ⟨gb135, 1, none⟩) (Kd.V_far (p := ⟨gb135, 0, none⟩) (Kd.V_mono HO130.out (zq gb135)) (fun _ hk => hk.2) (.slice Ao32 t128.length co32)) (fun _ hk => hk.2) (.slice Ao36 t131.length co36)) zp⟩, ⟨by (with_reducible repeat (first | apply Kd.V_alloc | apply Kd.V_drewN | apply Kd.V_drew)); exact Kd.V_mono (Kd.V_far (p := ⟨gb135, 1, none⟩) (Kd.V_far (p := ⟨gb135, 0, none⟩) (Kd.V_mono HO133.out (zq gb135)) (fun _ hk => hk.2) (.slice Ao32 t128.length co32)) (fun _ hk => hk.2) (.slice Ao36 t131.length co36)) zp⟩, ⟨(zK BK119)⟩, ⟨(zK BK127)⟩, ⟨(zP BK135)⟩, ⟨(zB HB)⟩⟩
  rw [if_pos c39] at H;have c39b0 : (t118 == 0) = true := beq_iff_eq.mpr c39
  have c39b1 : (t118 != 0) = false := bne_eq_false_iff_eq.mpr c39
  clear c39;by_cases c40 : t126 = 0
  rotate_left
  ·rw [if_neg c40] at H;have c40b0 : (t126 == 0) = false := beq_eq_false_iff_ne.mpr c40
   have c40b1 : (t126 != 0) = true := bne_iff_ne.mpr c40
   have H' := Am H
   clear H;go_wp2
   go_meet
   case rel => exact ⟨_, (true), zG, H', ⟨by first | omega | exact Nat.le_refl _⟩, ⟨by (with_reducible repeat (first | apply zA.a | apply zA.n | apply zA.d)); exact R_mono (R_far (p := ⟨gb135, 1, none⟩) (R_far (p := ⟨gb135, 0, none⟩) (R_types HO107.out BK135.out (by decide)) (fun _ hk => hk.2) (.slice Ao32 t128.length co32)) (fun _ hk => hk.2) (.slice Ao36 t131.length co36)) (fun _ hk => trivial)⟩, ⟨by (with_reducible repeat (first | apply Kd.V_alloc | apply Kd.V_drewN | apply Kd.V_drew)); exact Kd.V_mono (Kd.V_far (p := ⟨gb135, 1, none⟩) (Kd.V_far (p := ⟨gb135, 0, none⟩) (Kd.V_mono HO114.out (zq gb135)) (fun _ hk => hk.2) (.slice Ao32 t128.length co32)) (fun _ hk => hk.2) (.slice Ao36 t131.length co36)) zp⟩, ⟨by (with_reducible repeat (first | apply Kd.V_alloc | apply Kd.V_drewN | apply Kd.V_drew)); exact Kd.V_mono (Kd.V_far (p := ⟨gb135, 1, none⟩) (Kd.V_far (p := ⟨gb135, 0, none⟩) (Kd.V_mono HO117.out (zq gb135)) (fun _ hk => hk.2) (.slice Ao32 t128.length co32)) (fun _ hk => hk.2) (.slice Ao36 t131.length co36)) zp⟩, ⟨by (with_reducible repeat (first | apply Kd.V_alloc | apply Kd.V_drewN | apply Kd.V_drew)); exact Kd.V_mono (Kd.V_far (p := ⟨gb135, 1, none⟩) (Kd.V_far (p := ⟨gb135, 0, none⟩) (Kd.V_mono HO122.out (zq gb135)) (fun _ hk => hk.2) (.slice Ao32 t128.length co32)) (fun _ hk => hk.2) (.slice Ao36 t131.length co36)) zp⟩, ⟨by (with_reducible repeat (first | apply Kd.V_alloc | apply Kd.V_drewN | apply Kd.V_drew)); exact Kd.V_mono (Kd.V_far (p := ⟨gb135, 1, none⟩) (Kd.V_far (p := ⟨gb135, 0, none⟩) (Kd.V_mono HO125.out (zq gb135)) (fun _ hk => hk.2) (.slice Ao32 t128.length co32)) (fun _ hk => hk.2) (.slice Ao36 t131.length co36)) zp⟩, ⟨by (with_reducible repeat (first | apply Kd.V_alloc | apply Kd.V_drewN | apply Kd.V_drew)); exact Kd.V_mono (Kd.V_far (p := ⟨gb135, 1, none⟩) (Kd.V_far (p := ⟨gb135, 0, none⟩) (Kd.V_mono HO130.out (zq gb135)) (fun _ hk => hk.2) (.slice Ao32 t128.length co32)) (fun _ hk => hk.2) (.slice Ao36 t131.length co36)) zp⟩, ⟨by (with_reducible repeat (first | apply Kd.V_alloc | apply Kd.V_drewN | apply Kd.V_drew)); exact Kd.V_mono (Kd.V_far (p := ⟨gb135, 1, none⟩) (Kd.V_far (p := ⟨gb135, 0, none⟩) (Kd.V_mono HO133.out (zq gb135)) (fun _ hk => hk.2) (.slice Ao32 t128.length co32)) (fun _ hk => hk.2) (.slice Ao36 t131.length co36)) zp⟩, ⟨(zK BK119)⟩, ⟨(zK BK127)⟩, ⟨(zP BK135)⟩, ⟨(zB HB)⟩⟩
  rw [if_pos c40] at H;have c40b0 : (t126 == 0) = true := beq_iff_eq.mpr c40
  have c40b1 : (t126 != 0) = false := bne_eq_false_iff_eq.mpr c40
  clear c40;by_cases c41 : t134 = 0
  rotate_left
  ·rw [if_neg c41] at H;have c41b0 : (t134 == 0) = false := beq_eq_false_iff_ne.mpr c41
   have c41b1 : (t134 != 0) = true := bne_iff_ne.mpr c41
   have H' := Am H
   clear H;go_wp2
   go_meet
   case rel => exact ⟨_, (true), zG, H', ⟨by first | omega | exact Nat.le_refl _⟩, ⟨by (with_reducible repeat (first | apply zA.a | apply zA.n | apply zA.d)); exact R_mono (R_far (p := ⟨gb135, 1, none⟩) (R_far (p := ⟨gb135, 0, none⟩) (R_types HO107.out BK135.out (by decide)) (fun _ hk => hk.2) (.slice Ao32 t128.length co32)) (fun _ hk => hk.2) (.slice Ao36 t131.length co36)) (fun _ hk => trivial)⟩, ⟨by (with_reducible repeat (first | apply Kd.V_alloc | apply Kd.V_drewN | apply Kd.V_drew)); exact Kd.V_mono (Kd.V_far (p := ⟨gb135, 1, none⟩) (Kd.V_far (p := ⟨gb135, 0, none⟩) (Kd.V_mono HO114.out (zq gb135)) (fun _ hk => hk.2) (.slice Ao32 t128.length co32)) (fun _ hk => hk.2) (.slice Ao36 t131.length co36)) zp⟩, ⟨by (with_reducible repeat (first | apply Kd.V_alloc | apply Kd.V_drewN | apply Kd.V_drew)); exact Kd.V_mono (Kd.V_far (p := ⟨gb135, 1, none⟩) (Kd.V_far (p := ⟨gb135, 0, none⟩) (Kd.V_mono HO117.out (zq gb135)) (fun _ hk => hk.2) (.slice Ao32 t128.length co32)) (fun _ hk => hk.2) (.slice Ao36 t131.length co36)) zp⟩, ⟨by (with_reducible repeat (first | apply Kd.V_alloc | apply Kd.V_drewN | apply Kd.V_drew)); exact Kd.V_mono (Kd.V_far (p := ⟨gb135, 1, none⟩) (Kd.V_far (p := ⟨gb135, 0, none⟩) (Kd.V_mono HO122.out (zq gb135)) (fun _ hk => hk.2) (.slice Ao32 t128.length co32)) (fun _ hk => hk.2) (.slice Ao36 t131.length co36)) zp⟩, ⟨by (with_reducible repeat (first | apply Kd.V_alloc | apply Kd.V_drewN | apply Kd.V_drew)); exact Kd.V_mono (Kd.V_far (p := ⟨gb135, 1, none⟩) (Kd.V_far (p := ⟨gb135, 0, none⟩) (Kd.V_mono HO125.out (zq gb135)) (fun _ hk => hk.2) (.slice Ao32 t128.length co32)) (fun _ hk => hk.2) (.slice Ao36 t131.length co36)) zp⟩, ⟨by (with_reducible repeat (first | apply Kd.V_alloc | apply Kd.V_drewN | apply Kd.V_drew)); exact Kd.V_mono (Kd.V_far (p := ⟨gb135, 1, none⟩) (Kd.V_far (p := ⟨gb135, 0, none⟩) (Kd.V_mono HO130.out (zq gb135)) (fun _ hk => hk.2) (.slice Ao32 t128.length co32)) (fun _ hk => hk.2) (.slice Ao36 t131.length co36)) zp⟩, ⟨by (with_reducible repeat (first | apply Kd.V_alloc | apply Kd.V_drewN | apply Kd.V_drew)); exact Kd.V_mono (Kd.V_far (p := ⟨gb135, 1, none⟩) (Kd.V_far (p := ⟨gb135, 0, none⟩) (Kd.V_mono HO133.out (zq gb135)) (fun _ hk => hk.2) (.slice Ao32 t128.length co32)) (fun _ hk => hk.2) (.slice Ao36 t131.length co36)) zp⟩, ⟨(zK BK119)⟩, ⟨(zK BK127)⟩, ⟨(zP BK135)⟩, ⟨(zB HB)⟩⟩
  rw [if_pos c41] at H;have c41b0 : (t134 == 0) = true := beq_iff_eq.mpr c41
  have c41b1 : (t134 != 0) = false := bne_eq_false_iff_eq.mpr c41
  clear c41;by_cases c42 : (t115.length : Int) = (wrap64 (Int.tmod a2 64))
  rotate_left
  ·rw [if_neg c42] at H;have c42b0 : ((t115.length : Int) == (wrap64 (Int.tmod a2 64))) = false := beq_eq_false_iff_ne.mpr c42
   have c42b1 : ((t115.length : Int) != (wrap64 (Int.tmod a2 64))) = true := bne_iff_ne.mpr c42
   have H' := Am H
   clear H;have hnb54 := NB119_127.out;have hnc54 := NB127_119.out;have hnb55 := NB119_135.out;have hnc55 := NB135_119.out;obtain ⟨hcz56_0, hcz56_1, hfz56_0, hfz56_1⟩ := zc2 BK119;go_wp2
   go_meet
   case rel => exact ⟨_, (true), zG, H', ⟨by first | omega | exact Nat.le_refl _⟩, ⟨by (with_reducible repeat (first | apply zA.a | apply zA.n | apply zA.d)); exact R_mono (R_far (p := ⟨gb135, 1, none⟩) (R_far (p := ⟨gb135, 0, none⟩) (R_types HO107.out BK135.out (by decide)) (fun _ hk => hk.2) (.slice Ao32 t128.length co32)) (fun _ hk => hk.2) (.slice Ao36 t131.length co36)) (fun _ hk => trivial)⟩, ⟨by (with_reducible repeat (first | apply Kd.V_alloc | apply Kd.V_drewN | apply Kd.V_drew)); exact Kd.V_mono (Kd.V_far (p := ⟨gb135, 1, none⟩) (Kd.V_far (p := ⟨gb135, 0, none⟩) (Kd.V_mono HO114.out (zq gb135)) (fun _ hk => hk.2) (.slice Ao32 t128.length co32)) (fun _ hk => hk.2) (.slice Ao36 t131.length co36)) zp⟩, ⟨by (with_reducible repeat (first | apply Kd.V_alloc | apply Kd.V_drewN | apply Kd.V_drew)); exact Kd.V_mono (Kd.V_far (p := ⟨gb135, 1, none⟩) (Kd.V_far (p := ⟨gb135, 0, none⟩) (Kd.V_mono HO117.out (zq gb135)) (fun _ hk => hk.2) (.slice Ao32 t128.length co32)) (fun _ hk => hk.2) (.slice Ao36 t131.length co36)) zp⟩, ⟨by (with_reducible repeat (first | apply Kd.V_alloc | apply Kd.V_drewN | apply Kd.V_drew)); exact Kd.V_mono (Kd.V_far (p := ⟨gb135, 1, none⟩) (Kd.V_far (p := ⟨gb135, 0, none⟩) (Kd.V_mono HO122.out (zq gb135)) (fun _ hk => hk.2) (.slice Ao32 t128.length co32)) (fun _ hk => hk.2) (.slice Ao36 t131.length co36)) zp⟩, ⟨by (with_reducible repeat (first | apply Kd.V_alloc | apply Kd.V_drewN | apply Kd.V_drew)); exact Kd.V_mono (Kd.V_far (p := ⟨gb135, 1, none⟩) (Kd.V_far (p := ⟨gb135, 0, none⟩) (Kd.V_mono HO125.out (zq gb135)) (fun _ hk => hk.2) (.slice Ao32 t128.length co32)) (fun _ hk => hk.2) (.slice Ao36 t131.length co36)) zp⟩, ⟨by (with_reducible repeat (first | apply Kd.V_alloc | apply Kd.V_drewN | apply Kd.V_drew)); exact Kd.V_mono (Kd.V_far (p := ⟨gb135, 1, none⟩) (Kd.V_far (p := ⟨gb135, 0, none⟩) (Kd.V_mono HO130.out (zq gb135)) (fun _ hk => hk.2) (.slice Ao32 t128.length co32)) (fun _ hk => hk.2) (.slice Ao36 t131.length co36)) zp⟩, ⟨by (with_reducible repeat (first | apply Kd.V_alloc | apply Kd.V_drewN | apply Kd.V_drew)); exact Kd.V_mono (Kd.V_far (p := ⟨gb135, 1, none⟩) (Kd.V_far (p := ⟨gb135, 0, none⟩) (Kd.V_mono HO133.out (zq gb135)) (fun _ hk => hk.2) (.slice Ao32 t128.length co32)) (fun _ hk => hk.2) (.slice Ao36 t131.length co36)) zp⟩, ⟨(zK BK119)⟩, ⟨(zK BK127)⟩, ⟨(zP BK135)⟩, ⟨(zB HB)⟩⟩
  rw [if_pos c42] at H;have c42b0 : ((t115.length : Int) == (wrap64 (Int.tmod a2 64))) = true := beq_iff_eq.mpr c42
  have c42b1 : ((t115.length : Int) != (wrap64 (Int.tmod a2 64))) = false := bne_eq_false_iff_eq.mpr c42
  clear c42;by_cases c43 : (t123.length : Int) = (wrap64 (Int.tmod a2 64))
  rotate_left
  ·rw [if_neg c43] at H;have c43b0 : ((t123.length : Int) == (wrap64 (Int.tmod a2 64))) = false := beq_eq_false_iff_ne.mpr c43
   have c43b1 : ((t123.length : Int) != (wrap64 (Int.tmod a2 64))) = true := bne_iff_ne.mpr c43
   have H' := Am H
   clear H;have hnb49 := NB119_127.out;have hnc49 := NB127_119.out;have hnb50 := NB119_135.out;have hnc50 := NB135_119.out;obtain ⟨hcz51_0, hcz51_1, hfz51_0, hfz51_1⟩ := zc2 BK119;have hnb52 := NB127_135.out;have hnc52 := NB135_127.out;obtain ⟨hcz53_0, hcz53_1, hfz53_0, hfz53_1⟩ := zc2 BK127;go_wp2
   go_meet
   case rel => exact ⟨_, (true), zG, H', ⟨by first | omega | exact Nat.le_refl _⟩, ⟨by (with_reducible repeat (first | apply zA.a | apply zA.n | apply zA.d)); exact R_mono (R_far (p := ⟨gb135, 1, none⟩) (R_far (p := ⟨gb135, 0, none⟩) (R_types HO107.out BK135.out (by decide)) (fun _ hk => hk.2) (.slice Ao32 t128.length co32)) (fun _ hk => hk.2) (.slice Ao36 t131.length co36)) (fun _ hk => trivial)⟩, ⟨by (with_reducible repeat (first | apply Kd.V_alloc | apply Kd.V_drewN | apply Kd.V_drew)); exact Kd.V_mono (Kd.V_far (p := ⟨gb135, 1, none⟩) (Kd.V_far (p := ⟨gb135, 0, none⟩) (Kd.V_mono HO114.out (zq gb135)) (fun _ hk => hk.2) (.slice Ao32 t128.length co32)) (fun _ hk => hk.2) (.slice Ao36 t131.length co36)) zp⟩, ⟨by (with_reducible repeat (first | apply Kd.V_alloc | apply Kd.V_drewN | apply Kd.V_drew)); exact Kd.V_mono (Kd.V_far (p := ⟨gb135, 1, none⟩) (Kd.V_far (p := ⟨gb135, 0, none⟩) (Kd.V_mono HO117.out (zq gb135)) (fun _ hk => hk.2) (.slice Ao32 t128.length co32)) (fun _ hk => hk.2) (.slice Ao36 t131.length co36)) zp⟩, ⟨by (with_reducible repeat (first | apply Kd.V_alloc | apply Kd.V_drewN | apply Kd.V_drew)); exact Kd.V_mono (Kd.V_far (p := ⟨gb135, 1, none⟩) (Kd.V_far (p := ⟨gb135, 0, none⟩) (Kd.V_mono HO122.out (zq gb135)) (fun _ hk => hk.2) (.slice Ao32 t128.length co32)) (fun _ hk => hk.2) (.slice Ao36 t131.length co36)) zp⟩, ⟨by (with_reducible repeat (first | apply Kd.V_alloc | apply Kd.V_drewN | apply Kd.V_drew)); exact Kd.V_mono (Kd.V_far (p := ⟨gb135, 1, none⟩) (Kd.V_far (p := ⟨gb135, 0, none⟩) (Kd.V_mono HO125.out (zq gb135)) (fun _ hk => hk.2) (.slice Ao32 t128.length co32)) (fun _ hk => hk.2) (.slice Ao36 t131.length co36)) zp⟩, ⟨by (with_reducible repeat (first | apply Kd.V_alloc | apply Kd.V_drewN | apply Kd.V_drew)); exact Kd.V_mono (Kd.V_far (p := ⟨gb135, 1, none⟩) (Kd.V_far (p := ⟨gb135, 0, none⟩) (Kd.V_mono HO130.out (zq gb135)) (fun _ hk => hk.2) (.slice Ao32 t128.length co32)) (fun _ hk => hk.2) (.slice Ao36 t131.length co36)) zp⟩, ⟨by (with_reducible repeat (first | apply Kd.V_alloc | apply Kd.V_drewN | apply Kd.V_drew)); exact Kd.V_mono (Kd.V_far (p := ⟨gb135, 1, none⟩) (Kd.V_far (p := ⟨gb135, 0, none⟩) (Kd.V_mono HO133.out (zq gb135)) (fun _ hk => hk.2) (.slice Ao32 t128.length co32)) (fun _ hk => hk.2) (.slice Ao36 t131.length co36)) zp⟩, ⟨(zK BK119)⟩, ⟨(zK BK127)⟩, ⟨(zP BK135)⟩, ⟨(zB HB)⟩⟩
  rw [if_pos c43] at H;have c43b0 : ((t123.length : Int) == (wrap64 (Int.tmod a2 64))) = true := beq_iff_eq.mpr c43
  have c43b1 : ((t123.length : Int) != (wrap64 (Int.tmod a2 64))) = false := bne_eq_false_iff_eq.mpr c43
  clear c43;have H' := Am H
  clear H;have hnb44 := NB119_127.out;have hnc44 := NB127_119.out;have hnb45 := NB119_135.out;have hnc45 := NB135_119.out;obtain ⟨hcz46_0, hcz46_1, hfz46_0, hfz46_1⟩ := zc2 BK119;have hnb47 := NB127_135.out;have hnc47 := NB135_127.out;obtain ⟨hcz48_0, hcz48_1, hfz48_0, hfz48_1⟩ := zc2 BK127;go_wp2
  go_meet
  case rel => exact ⟨_, (((t112.length : Int) != (wrap64 ((wrap64 (Int.tmod a2 64)) + 1)))), zG, H', ⟨by first | omega | exact Nat.le_refl _⟩, ⟨by (with_reducible repeat (first | apply zA.a | apply zA.n | apply zA.d)); exact R_mono (R_far (p := ⟨gb135, 1, none⟩) (R_far (p := ⟨gb135, 0, none⟩) (R_types HO107.out BK135.out (by decide)) (fun _ hk => hk.2) (.slice Ao32 t128.length co32)) (fun _ hk => hk.2) (.slice Ao36 t131.length co36)) (fun _ hk => trivial)⟩, ⟨by (with_reducible repeat (first | apply Kd.V_alloc | apply Kd.V_drewN | apply Kd.V_drew)); exact Kd.V_mono (Kd.V_far (p := ⟨gb135, 1, none⟩) (Kd.V_far (p := ⟨gb135, 0, none⟩) (Kd.V_mono HO114.out (zq gb135)) (fun _ hk => hk.2) (.slice Ao32 t128.length co32)) (fun _ hk => hk.2) (.slice Ao36 t131.length co36)) zp⟩, ⟨by (with_reducible repeat (first | apply Kd.V_alloc | apply Kd.V_drewN | apply Kd.V_drew)); exact Kd.V_mono (Kd.V_far (p := ⟨gb135, 1, none⟩) (Kd.V_far (p := ⟨gb135, 0, none⟩) (Kd.V_mono HO117.out (zq gb135)) (fun _ hk => hk.2) (.slice Ao32 t128.length co32)) (fun _ hk => hk.2) (.slice Ao36 t131.length co36)) zp⟩, ⟨by (with_reducible repeat (first | apply Kd.V_alloc | apply Kd.V_drewN | apply Kd.V_drew)); exact Kd.V_mono (Kd.V_far (p := ⟨gb135, 1, none⟩) (Kd.V_far (p := ⟨gb135, 0, none⟩) (Kd.V_mono HO122.out (zq gb135)) (fun _ hk => hk.2) (.slice Ao32 t128.length co32)) (fun _ hk => hk.2) (.slice Ao36 t131.length co36)) zp⟩, ⟨by (with_reducible repeat (first | apply Kd.V_alloc | apply Kd.V_drewN | apply Kd.V_drew)); exact Kd.V_mono (Kd.V_far (p := ⟨gb135, 1, none⟩) (Kd.V_far (p := ⟨gb135, 0, none⟩) (Kd.V_mono HO125.out (zq gb135)) (fun _ hk => hk.2) (.slice Ao32 t128.length co32)) (fun _ hk => hk.2) (.slice Ao36 t131.length co36)) zp⟩, ⟨by (with_reducible repeat (first | apply Kd.V_alloc | apply Kd.V_drewN | apply Kd.V_drew)); exact Kd.V_mono (Kd.V_far (p := ⟨gb135, 1, none⟩) (Kd.V_far (p := ⟨gb135, 0, none⟩) (Kd.V_mono HO130.out (zq gb135)) (fun _ hk => hk.2) (.slice Ao32 t128.length co32)) (fun _ hk => hk.2) (.slice Ao36 t131.length co36)) zp⟩, ⟨by (with_reducible repeat (first | apply Kd.V_alloc | apply Kd.V_drewN | apply Kd.V_drew)); exact Kd.V_mono (Kd.V_far (p := ⟨gb135, 1, none⟩) (Kd.V_far (p := ⟨gb135, 0, none⟩) (Kd.V_mono HO133.out (zq gb135)) (fun _ hk => hk.2) (.slice Ao32 t128.length co32)) (fun _ hk => hk.2) (.slice Ao36 t131.length co36)) zp⟩, ⟨(zK BK119)⟩, ⟨(zK BK127)⟩, ⟨(zP BK135)⟩, ⟨(zB HB)⟩⟩
 case rest =>
  clear HC11;(try clear c1);(try clear c2);(try clear p2);(try clear c3);(try clear c4);(try clear c5);(try clear p6);(try clear c7);(try clear c15);(try clear c20);(try clear c26);(try clear c29);(try clear c31);(try clear c33);(try clear c34);(try clear c37);(try clear c38);(try clear c38b0);(try clear c38b1);(try clear c39);(try clear c39b0);(try clear c39b1);(try clear c40);(try clear c40b0);(try clear c40b1);(try clear c41);(try clear c41b0);(try clear c41b1);(try clear c42);(try clear c42b0);(try clear c42b1);(try clear c43);(try clear c43b0);(try clear c43b1);(try clear c44);(try clear c45);(try clear c47);(try clear c49);(try clear c50);(try clear c52);(try clear c54);(try clear c55);(try clear hcz21_0);(try clear hcz21_1);(try clear hcz27_0);(try clear hcz27_1);(try clear hcz35_0);(try clear hcz35_1);(try clear hcz46_0);(try clear hcz46_1);(try clear hcz48_0);(try clear hcz48_1);(try clear hcz51_0);(try clear hcz51_1);(try clear hcz53_0);(try clear hcz53_1);(try clear hcz56_0);(try clear hcz56_1);(try clear hfz21_0);(try clear hfz21_1);(try clear hfz27_0);(try clear hfz27_1);(try clear hfz35_0);(try clear hfz35_1);(try clear hfz46_0);(try clear hfz46_1);(try clear hfz48_0);(try clear hfz48_1);(try clear hfz51_0);(try clear hfz51_1);(try clear hfz53_0);(try clear hfz53_1);(try clear hfz56_0);(try clear hfz56_1);obtain ⟨kq, x94_10, rfl, HA, HJ10, HO_10, HO_120000, HO_120001, HO_128000, HO_128001, HO_136000, HO_136001, BK119, BK127, BK135, HB⟩ := hcut
  cases kq with
  | zero => exact absurd HA.out (by simp [epitomelaw11_OverGaps.j0])
  | succ kj10 =>
   have H := HA.out;clear HA;simp only [epitomelaw11_OverGaps.j0] at H
   by_cases c57 : x94_10 = true
   ·subst c57
    have H1 : (some false) = some r := by rw [if_pos rfl] at H; exact H
    clear H;have H := H1
    clear H1;exact Bool.noConfusion ((Option.some.inj H).trans hr_.out)
   replace c57 := Bool.eq_false_iff.mpr c57
   subst c57
   have H1 : ((op_Out.f kj10 t105).bind fun t136 => (if 0 ≤ (wrap64 (t136 + 1)) then (if (wrap64 (t136 + 1) : Int).toNat ≤ 17592186044416 then (if 0 ≤ t136 then (if (t136 : Int).toNat ≤ 281474976710656 then (epitomelaw11_OverGaps.l0 kj10 (wrap64 (Int.tmod a2 64)) t105 t136 0 t112 t115 t120 t123 t128 t131 (List.replicate (wrap64 (t136 + 1) : Int).toNat (⟨#[]⟩ : ByteArray)) (List.replicate (t136 : Int).toNat false)) else (none)) else (none)) else (none)) else (none))) = some r := by rw [if_neg (show ¬ (false = true) by decide)] at H; exact H
   clear H;have H := H1
   clear H1;replace H := Option.bind_eq_some_iff.mp H;obtain ⟨t136, A580, H⟩ := H;have A58 := Am A580;clear A580;obtain ⟨ji59, hji59⟩ : ∃ j_ : Int, (wrap64 (t136 + 1)) = j_ := ⟨_, rfl⟩
   replace H : (if 0 ≤ (ji59) then (if (ji59 : Int).toNat ≤ 17592186044416 then (if 0 ≤ t136 then (if (t136 : Int).toNat ≤ 281474976710656 then (epitomelaw11_OverGaps.l0 kj10 (wrap64 (Int.tmod a2 64)) t105 t136 0 t112 t115 t120 t123 t128 t131 (List.replicate (ji59 : Int).toNat (⟨#[]⟩ : ByteArray)) (List.replicate (t136 : Int).toNat false)) else (none)) else (none)) else (none)) else (none)) = some r := by first | (rw [hji59] at H; exact H) | (simp only [hji59] at H ⊢; exact H)
   (try rw [hji59] at A58)
   have hji59w : (IntKind.i64.wrap (t136 + 1)) = ji59 := (i64_w _).trans hji59
   by_cases c60 : 0 ≤ (ji59)
   rotate_left
   ·rw [if_neg c60] at H;exact absurd H (by simp)
   rw [if_pos c60] at H;have c60b0 := eq_true c60
   have c60b1 : decide (0 ≤ (ji59)) = true := decide_eq_true c60
   clear c60;by_cases c61 : (ji59 : Int).toNat ≤ 17592186044416
   rotate_left
   ·rw [if_neg c61] at H;exact absurd H (by simp)
   rw [if_pos c61] at H;have c61b0 := eq_true c61
   have c61b1 : decide ((ji59 : Int).toNat ≤ 17592186044416) = true := decide_eq_true c61
   clear c61;obtain ⟨y137, hy137⟩ : ∃ y_ : List ByteArray, y_ = (List.replicate (ji59 : Int).toNat (⟨#[]⟩ : ByteArray)) := ⟨_, rfl⟩
   replace H : (if 0 ≤ t136 then (if (t136 : Int).toNat ≤ 281474976710656 then (epitomelaw11_OverGaps.l0 kj10 (wrap64 (Int.tmod a2 64)) t105 t136 0 t112 t115 t120 t123 t128 t131 y137 (List.replicate (t136 : Int).toNat false)) else (none)) else (none)) = some r := by first | (rw [hy137]; with_reducible exact H) | (have H2_ := (Option.bind_some _ _).symm.trans H; rw [hy137]; with_reducible exact H2_) | (have H2_ := (Option.bind_some _ _).symm.trans H; with_reducible exact H2_) | with_reducible exact H | (rw [hy137]; exact H) | exact H
   have Ny137 := Am hy137;clear hy137;by_cases c62 : 0 ≤ t136
   rotate_left
   ·rw [if_neg c62] at H;exact absurd H (by simp)
   rw [if_pos c62] at H;have c62b0 := eq_true c62
   have c62b1 : decide (0 ≤ t136) = true := decide_eq_true c62
   clear c62;by_cases c63 : (t136 : Int).toNat ≤ 281474976710656
   rotate_left
   ·rw [if_neg c63] at H;exact absurd H (by simp)
   rw [if_pos c63] at H;have c63b0 := eq_true c63
   have c63b1 : decide ((t136 : Int).toNat ≤ 281474976710656) = true := decide_eq_true c63
   clear c63;obtain ⟨y140, hy140⟩ : ∃ y_ : List Bool, y_ = (List.replicate (t136 : Int).toNat false) := ⟨_, rfl⟩
   replace H : (epitomelaw11_OverGaps.l0 kj10 (wrap64 (Int.tmod a2 64)) t105 t136 0 t112 t115 t120 t123 t128 t131 y137 y140) = some r := by first | (rw [hy140]; with_reducible exact H) | (have H2_ := (Option.bind_some _ _).symm.trans H; rw [hy140]; with_reducible exact H2_) | (have H2_ := (Option.bind_some _ _).symm.trans H; with_reducible exact H2_) | with_reducible exact H | (rw [hy140]; exact H) | exact H
   have Ny140 := Am hy140;clear hy140;have H' := Am H
   clear H;try go_wp2_with (first | ((with_reducible refine gate_callee (f := 32) rfl ?_); refine goesL_ (some 96) rfl rfl Tryd.func32 (by kernel_rfl) rfl #[.slice Ao16 t105.length co16] rfl zE ?_; (with_reducible refine (op_Out.calls kj10 _ _ t105 t136 _ ?side1 ?side2 ?side3 A58.out).mono ?_); (case side1 => exact zg HG HB); (case side2 => exact zI (R_reads' HO_10.out).2.2); (case side3 => exact (R_reads' HO_10.out).2.1); rintro e w64 ⟨rfl, hb⟩; refine ⟨_, rfl, ?_⟩; replace HO_10 := Am (R_below (zR HO_10) hb);replace HO_120000 := Am (Kd.V_below (zV HO_120000) hb);replace HO_120001 := Am (Kd.V_below (zV HO_120001) hb);replace HO_128000 := Am (Kd.V_below (zV HO_128000) hb);replace HO_128001 := Am (Kd.V_below (zV HO_128001) hb);replace HO_136000 := Am (Kd.V_below (zV HO_136000) hb);replace HO_136001 := Am (Kd.V_below (zV HO_136001) hb);replace BK119 := Am (zU BK119 hb);replace BK127 := Am (zU BK127 hb);replace BK135 := Am (zU BK135 hb);replace HB := Am (below_step (zB HB) hb); (try clear hb)))
   replace HO_10 := Am (R_drew HO_10.out);replace HO_120000 := Am (Kd.V_drew HO_120000.out);replace HO_120001 := Am (Kd.V_drew HO_120001.out);replace HO_128000 := Am (Kd.V_drew HO_128000.out);replace HO_128001 := Am (Kd.V_drew HO_128001.out);replace HO_136000 := Am (Kd.V_drew HO_136000.out);replace HO_136001 := Am (Kd.V_drew HO_136001.out);replace BK119 := Am (blk_drew BK119.out);replace BK127 := Am (blk_drew BK127.out);replace BK135 := Am (blk_drew BK135.out);replace HB := Am (below_drew1 HB.out);refine start_ (n := 8) (S := fun w' => True) (ds := []) #[false, false, false, false, false, false, false, false] (by kernel_rfl) rfl rfl trivial (fun hHeld => ?_); refine with_tabW epitomelaw11_OverGaps.tab12 epitomelaw11_OverGaps.bits12 (fun HT_ HW_ => ?_)
   generalize w64.drew = w65 at HO_10 HO_120000 HO_120001 HO_128000 HO_128001 HO_136000 HO_136001 BK119 BK127 BK135 HB hHeld ⊢
   refine pure_ (i := 0) (N := some 97) (v := ?_) (a' := ?_) #[true, false, false, false, false, false, false, false] rfl rfl (any_of HT_.out (by kernel_rfl)) (fun _ _ _ h => h) (Or.inl ⟨by rfl, ?_⟩) ?_ ?_
   rotate_left
   ·intro w'
    go_simp;with_reducible rfl
   rotate_left
   ·simp only [Act.put, zS, i64_w, i32_w]
    rfl
   refine pure_ (i := 1) (N := some 98) (v := ?_) (a' := ?_) #[true, true, false, false, false, false, false, false] rfl rfl (any_of HT_.out (by kernel_rfl)) (fun _ _ _ h => h) (Or.inl ⟨by rfl, ?_⟩) ?_ ?_
   rotate_left
   ·intro w'
    go_simp;with_reducible rfl
   rotate_left
   ·simp only [Act.put, zS, i64_w, i32_w]
    rfl
   refine pure_ (i := 3) (N := some 100) (v := ?_) (a' := ?_) #[true, true, false, true, false, false, false, false] rfl rfl (any_of HT_.out (by kernel_rfl)) (fun _ _ _ h => h) (Or.inl ⟨by rfl, ?_⟩) ?_ ?_
   rotate_left
   ·intro w'
    go_simp;with_reducible rfl
   rotate_left
   ·simp only [Act.put, zS, i64_w, i32_w]
    rfl
   refine join_ (σ := Value × Value × Nat) 1 #[true, true, true, true, true, true, true, false] (fun s_ => [(99, s_.1), (101, s_.2.1), (20, .pointer (some ⟨s_.2.2, 0, none⟩)), (102, .agg #[s_.1, s_.2.1])]) (fun s_ w' => (fun (ok_ : Nat → Prop) => (Kd.R Kd.string 9 w' w.heap.size (fun _ => True) s_.1 y137) ∧ (Kd.R Kd.bool 4 w' w.heap.size (fun _ => True) s_.2.1 y140) ∧ (Kd.R k26 26 w' w.heap.size (fun _ => True) (.slice Ao16 t105.length co16) t105) ∧ (Kd.V Kd.string 9 w' w.heap.size ok_ (.slice Ao20 t112.length co20) t112) ∧ (Kd.V Kd.bool 4 w' w.heap.size ok_ (.slice Ao22 t115.length co22) t115) ∧ (Kd.V Kd.string 9 w' w.heap.size ok_ (.slice Ao25 t120.length co25) t120) ∧ (Kd.V Kd.bool 4 w' w.heap.size ok_ (.slice Ao28 t123.length co28) t123) ∧ (Kd.V Kd.string 9 w' w.heap.size ok_ (.slice Ao32 t128.length co32) t128) ∧ (Kd.V Kd.bool 4 w' w.heap.size ok_ (.slice Ao36 t131.length co36) t131) ∧ (w'.heap[gb119]? = some (.cells #[.slice Ao20 t112.length co20, .slice Ao22 t115.length co22] 49 (0, 0))) ∧ (w'.heap[gb127]? = some (.cells #[.slice Ao25 t120.length co25, .slice Ao28 t123.length co28] 49 (0, 0))) ∧ (w'.heap[gb135]? = some (.cells #[.slice Ao32 t128.length co32, .slice Ao36 t131.length co36] 49 (0, 0))) ∧ (w'.heap[s_.2.2]? = some (.cells #[.slice none 0 0, .slice none 0 0] 49 (0, 0))) ∧ (w.heap.size ≤ s_.2.2) ∧ (w.heap.size ≤ s_.2.2) ∧ (gb119 ≠ s_.2.2) ∧ (s_.2.2 ≠ gb119) ∧ (gb127 ≠ s_.2.2) ∧ (s_.2.2 ≠ gb127) ∧ (gb135 ≠ s_.2.2) ∧ (s_.2.2 ≠ gb135) ∧ (Below w.heap.size w w')) (fun k_ => some k_ ≠ (s_.1 : Value).ownBlock ∧ some k_ ≠ (s_.2.1 : Value).ownBlock ∧ some k_ ≠ (.slice Ao16 t105.length co16 : Value).ownBlock ∧ k_ ≠ gb119 ∧ k_ ≠ gb127 ∧ k_ ≠ gb135 ∧ k_ ≠ s_.2.2)) ?_ ?_
   rotate_left
   ·intro hJ2_4_6;refine join_ (σ := Value × Value) 2 #[true, true, true, true, true, true, false, false] (fun s_ => [(99, s_.1), (101, s_.2), (102, .agg #[s_.1, s_.2])]) (fun s_ w' => (fun (ok_ : Nat → Prop) => (Kd.R Kd.string 9 w' w.heap.size (fun _ => True) s_.1 y137) ∧ (Kd.R Kd.bool 4 w' w.heap.size (fun _ => True) s_.2 y140) ∧ (Kd.R k26 26 w' w.heap.size (fun _ => True) (.slice Ao16 t105.length co16) t105) ∧ (Kd.V Kd.string 9 w' w.heap.size ok_ (.slice Ao20 t112.length co20) t112) ∧ (Kd.V Kd.bool 4 w' w.heap.size ok_ (.slice Ao22 t115.length co22) t115) ∧ (Kd.V Kd.string 9 w' w.heap.size ok_ (.slice Ao25 t120.length co25) t120) ∧ (Kd.V Kd.bool 4 w' w.heap.size ok_ (.slice Ao28 t123.length co28) t123) ∧ (Kd.V Kd.string 9 w' w.heap.size ok_ (.slice Ao32 t128.length co32) t128) ∧ (Kd.V Kd.bool 4 w' w.heap.size ok_ (.slice Ao36 t131.length co36) t131) ∧ (w'.heap[gb119]? = some (.cells #[.slice Ao20 t112.length co20, .slice Ao22 t115.length co22] 49 (0, 0))) ∧ (w'.heap[gb127]? = some (.cells #[.slice Ao25 t120.length co25, .slice Ao28 t123.length co28] 49 (0, 0))) ∧ (w'.heap[gb135]? = some (.cells #[.slice Ao32 t128.length co32, .slice Ao36 t131.length co36] 49 (0, 0))) ∧ (Below w.heap.size w w')) (fun k_ => some k_ ≠ (s_.1 : Value).ownBlock ∧ some k_ ≠ (s_.2 : Value).ownBlock ∧ some k_ ≠ (.slice Ao16 t105.length co16 : Value).ownBlock ∧ k_ ≠ gb119 ∧ k_ ≠ gb127 ∧ k_ ≠ gb135)) ?_ ?_
    rotate_left
    ·intro hJ2_4;refine join_ (σ := Value × Nat) 3 #[true, true, true, true, false, false, true, false] (fun s_ => [(99, s_.1), (20, .pointer (some ⟨s_.2, 0, none⟩))]) (fun s_ w' => (fun (ok_ : Nat → Prop) => (Kd.R Kd.string 9 w' w.heap.size (fun _ => True) s_.1 y137) ∧ (Kd.R k26 26 w' w.heap.size (fun _ => True) (.slice Ao16 t105.length co16) t105) ∧ (Kd.V Kd.string 9 w' w.heap.size ok_ (.slice Ao20 t112.length co20) t112) ∧ (Kd.V Kd.bool 4 w' w.heap.size ok_ (.slice Ao22 t115.length co22) t115) ∧ (Kd.V Kd.string 9 w' w.heap.size ok_ (.slice Ao25 t120.length co25) t120) ∧ (Kd.V Kd.bool 4 w' w.heap.size ok_ (.slice Ao28 t123.length co28) t123) ∧ (Kd.V Kd.string 9 w' w.heap.size ok_ (.slice Ao32 t128.length co32) t128) ∧ (Kd.V Kd.bool 4 w' w.heap.size ok_ (.slice Ao36 t131.length co36) t131) ∧ (w'.heap[gb119]? = some (.cells #[.slice Ao20 t112.length co20, .slice Ao22 t115.length co22] 49 (0, 0))) ∧ (w'.heap[gb127]? = some (.cells #[.slice Ao25 t120.length co25, .slice Ao28 t123.length co28] 49 (0, 0))) ∧ (w'.heap[gb135]? = some (.cells #[.slice Ao32 t128.length co32, .slice Ao36 t131.length co36] 49 (0, 0))) ∧ (w'.heap[s_.2]? = some (.cells #[.slice none 0 0, .slice none 0 0] 49 (0, 0))) ∧ (w.heap.size ≤ s_.2) ∧ (w.heap.size ≤ s_.2) ∧ (gb119 ≠ s_.2) ∧ (s_.2 ≠ gb119) ∧ (gb127 ≠ s_.2) ∧ (s_.2 ≠ gb127) ∧ (gb135 ≠ s_.2) ∧ (s_.2 ≠ gb135) ∧ (Below w.heap.size w w')) (fun k_ => some k_ ≠ (s_.1 : Value).ownBlock ∧ some k_ ≠ (.slice Ao16 t105.length co16 : Value).ownBlock ∧ k_ ≠ gb119 ∧ k_ ≠ gb127 ∧ k_ ≠ gb135 ∧ k_ ≠ s_.2)) ?_ ?_
     rotate_left
     ·intro hJ2_6;refine join_ (σ := Value × Nat) 3 #[true, true, false, true, true, false, true, false] (fun s_ => [(101, s_.1), (20, .pointer (some ⟨s_.2, 0, none⟩))]) (fun s_ w' => (fun (ok_ : Nat → Prop) => (Kd.R Kd.bool 4 w' w.heap.size (fun _ => True) s_.1 y140) ∧ (Kd.R k26 26 w' w.heap.size (fun _ => True) (.slice Ao16 t105.length co16) t105) ∧ (Kd.V Kd.string 9 w' w.heap.size ok_ (.slice Ao20 t112.length co20) t112) ∧ (Kd.V Kd.bool 4 w' w.heap.size ok_ (.slice Ao22 t115.length co22) t115) ∧ (Kd.V Kd.string 9 w' w.heap.size ok_ (.slice Ao25 t120.length co25) t120) ∧ (Kd.V Kd.bool 4 w' w.heap.size ok_ (.slice Ao28 t123.length co28) t123) ∧ (Kd.V Kd.string 9 w' w.heap.size ok_ (.slice Ao32 t128.length co32) t128) ∧ (Kd.V Kd.bool 4 w' w.heap.size ok_ (.slice Ao36 t131.length co36) t131) ∧ (w'.heap[gb119]? = some (.cells #[.slice Ao20 t112.length co20, .slice Ao22 t115.length co22] 49 (0, 0))) ∧ (w'.heap[gb127]? = some (.cells #[.slice Ao25 t120.length co25, .slice Ao28 t123.length co28] 49 (0, 0))) ∧ (w'.heap[gb135]? = some (.cells #[.slice Ao32 t128.length co32, .slice Ao36 t131.length co36] 49 (0, 0))) ∧ (w'.heap[s_.2]? = some (.cells #[.slice none 0 0, .slice none 0 0] 49 (0, 0))) ∧ (w.heap.size ≤ s_.2) ∧ (w.heap.size ≤ s_.2) ∧ (gb119 ≠ s_.2) ∧ (s_.2 ≠ gb119) ∧ (gb127 ≠ s_.2) ∧ (s_.2 ≠ gb127) ∧ (gb135 ≠ s_.2) ∧ (s_.2 ≠ gb135) ∧ (Below w.heap.size w w')) (fun k_ => some k_ ≠ (s_.1 : Value).ownBlock ∧ some k_ ≠ (.slice Ao16 t105.length co16 : Value).ownBlock ∧ k_ ≠ gb119 ∧ k_ ≠ gb127 ∧ k_ ≠ gb135 ∧ k_ ≠ s_.2)) ?_ ?_
      rotate_left
      ·intro hJ4_6;refine join_ (σ := Value) 4 #[true, true, true, true, false, false, false, false] (fun s_ => [(99, s_)]) (fun s_ w' => (fun (ok_ : Nat → Prop) => (Kd.R Kd.string 9 w' w.heap.size (fun _ => True) s_ y137) ∧ (Kd.R k26 26 w' w.heap.size (fun _ => True) (.slice Ao16 t105.length co16) t105) ∧ (Kd.V Kd.string 9 w' w.heap.size ok_ (.slice Ao20 t112.length co20) t112) ∧ (Kd.V Kd.bool 4 w' w.heap.size ok_ (.slice Ao22 t115.length co22) t115) ∧ (Kd.V Kd.string 9 w' w.heap.size ok_ (.slice Ao25 t120.length co25) t120) ∧ (Kd.V Kd.bool 4 w' w.heap.size ok_ (.slice Ao28 t123.length co28) t123) ∧ (Kd.V Kd.string 9 w' w.heap.size ok_ (.slice Ao32 t128.length co32) t128) ∧ (Kd.V Kd.bool 4 w' w.heap.size ok_ (.slice Ao36 t131.length co36) t131) ∧ (w'.heap[gb119]? = some (.cells #[.slice Ao20 t112.length co20, .slice Ao22 t115.length co22] 49 (0, 0))) ∧ (w'.heap[gb127]? = some (.cells #[.slice Ao25 t120.length co25, .slice Ao28 t123.length co28] 49 (0, 0))) ∧ (w'.heap[gb135]? = some (.cells #[.slice Ao32 t128.length co32, .slice Ao36 t131.length co36] 49 (0, 0))) ∧ (Below w.heap.size w w')) (fun k_ => some k_ ≠ (s_ : Value).ownBlock ∧ some k_ ≠ (.slice Ao16 t105.length co16 : Value).ownBlock ∧ k_ ≠ gb119 ∧ k_ ≠ gb127 ∧ k_ ≠ gb135)) ?_ ?_
       rotate_left
       ·intro hJ2;refine join_ (σ := Value) 4 #[true, true, false, true, true, false, false, false] (fun s_ => [(101, s_)]) (fun s_ w' => (fun (ok_ : Nat → Prop) => (Kd.R Kd.bool 4 w' w.heap.size (fun _ => True) s_ y140) ∧ (Kd.R k26 26 w' w.heap.size (fun _ => True) (.slice Ao16 t105.length co16) t105) ∧ (Kd.V Kd.string 9 w' w.heap.size ok_ (.slice Ao20 t112.length co20) t112) ∧ (Kd.V Kd.bool 4 w' w.heap.size ok_ (.slice Ao22 t115.length co22) t115) ∧ (Kd.V Kd.string 9 w' w.heap.size ok_ (.slice Ao25 t120.length co25) t120) ∧ (Kd.V Kd.bool 4 w' w.heap.size ok_ (.slice Ao28 t123.length co28) t123) ∧ (Kd.V Kd.string 9 w' w.heap.size ok_ (.slice Ao32 t128.length co32) t128) ∧ (Kd.V Kd.bool 4 w' w.heap.size ok_ (.slice Ao36 t131.length co36) t131) ∧ (w'.heap[gb119]? = some (.cells #[.slice Ao20 t112.length co20, .slice Ao22 t115.length co22] 49 (0, 0))) ∧ (w'.heap[gb127]? = some (.cells #[.slice Ao25 t120.length co25, .slice Ao28 t123.length co28] 49 (0, 0))) ∧ (w'.heap[gb135]? = some (.cells #[.slice Ao32 t128.length co32, .slice Ao36 t131.length co36] 49 (0, 0))) ∧ (Below w.heap.size w w')) (fun k_ => some k_ ≠ (s_ : Value).ownBlock ∧ some k_ ≠ (.slice Ao16 t105.length co16 : Value).ownBlock ∧ k_ ≠ gb119 ∧ k_ ≠ gb127 ∧ k_ ≠ gb135)) ?_ ?_
        rotate_left
        ·intro hJ4;refine join_ (σ := Nat) 4 #[true, true, false, true, false, false, true, false] (fun s_ => [(20, .pointer (some ⟨s_, 0, none⟩))]) (fun s_ w' => (fun (ok_ : Nat → Prop) => (Kd.R k26 26 w' w.heap.size (fun _ => True) (.slice Ao16 t105.length co16) t105) ∧ (Kd.V Kd.string 9 w' w.heap.size ok_ (.slice Ao20 t112.length co20) t112) ∧ (Kd.V Kd.bool 4 w' w.heap.size ok_ (.slice Ao22 t115.length co22) t115) ∧ (Kd.V Kd.string 9 w' w.heap.size ok_ (.slice Ao25 t120.length co25) t120) ∧ (Kd.V Kd.bool 4 w' w.heap.size ok_ (.slice Ao28 t123.length co28) t123) ∧ (Kd.V Kd.string 9 w' w.heap.size ok_ (.slice Ao32 t128.length co32) t128) ∧ (Kd.V Kd.bool 4 w' w.heap.size ok_ (.slice Ao36 t131.length co36) t131) ∧ (w'.heap[gb119]? = some (.cells #[.slice Ao20 t112.length co20, .slice Ao22 t115.length co22] 49 (0, 0))) ∧ (w'.heap[gb127]? = some (.cells #[.slice Ao25 t120.length co25, .slice Ao28 t123.length co28] 49 (0, 0))) ∧ (w'.heap[gb135]? = some (.cells #[.slice Ao32 t128.length co32, .slice Ao36 t131.length co36] 49 (0, 0))) ∧ (w'.heap[s_]? = some (.cells #[.slice none 0 0, .slice none 0 0] 49 (0, 0))) ∧ (w.heap.size ≤ s_) ∧ (w.heap.size ≤ s_) ∧ (gb119 ≠ s_) ∧ (s_ ≠ gb119) ∧ (gb127 ≠ s_) ∧ (s_ ≠ gb127) ∧ (gb135 ≠ s_) ∧ (s_ ≠ gb135) ∧ (Below w.heap.size w w')) (fun k_ => some k_ ≠ (.slice Ao16 t105.length co16 : Value).ownBlock ∧ k_ ≠ gb119 ∧ k_ ≠ gb127 ∧ k_ ≠ gb135 ∧ k_ ≠ s_)) ?_ ?_
         rotate_left
         ·intro hJ6;refine three_ (i := 2) (j := 4) (k := 6) (Ni := some 99) (Nj := some 101) (Nk := some 20) #[true, true, true, true, false, false, false, false] #[true, true, false, true, true, false, false, false] #[true, true, false, true, false, false, true, false] rfl rfl rfl rfl rfl rfl (three_of HT_.out (by kernel_rfl)) (by decide) (by decide) (by decide) (fun K hK => ?_) (fun K hK => ?_) (fun K hK => ?_)
          ·skip
           refine R_make_step Kd.string _ 9 (by rfl) (N := 99) rfl 46 _ _ rfl ji59 rfl rfl Tryd.underlying46 (.string ⟨#[]⟩) 16 info9 rfl (by decide) (by omega) (⟨#[]⟩ : ByteArray) (ok := fun _ => True) (okp := fun _ => True) rfl (fun _ hk => hk) trivial (of_decide_eq_true (by assumption)) (Nat.le_trans (Nat.mul_le_mul_right _ (of_decide_eq_true (by assumption) : ji59.toNat ≤ 17592186044416)) (by omega)) (Below.refl _ _) (Nat.le_refl _) ?_
           intro v138 w66 ho67 hb hg_ hnew_;clear hg_ hnew_;(first | rw [← Ny137.out] at ho67 | (simp only [Int.reduceToNat] at ho67; rw [← Ny137.out] at ho67))
           replace HO_10 := Am (R_below (zR HO_10) hb);replace HO_120000 := Am (Kd.V_elder' (zV HO_120000) (R_base ho67) hb);replace HO_120001 := Am (Kd.V_elder' (zV HO_120001) (R_base ho67) hb);replace HO_128000 := Am (Kd.V_elder' (zV HO_128000) (R_base ho67) hb);replace HO_128001 := Am (Kd.V_elder' (zV HO_128001) (R_base ho67) hb);replace HO_136000 := Am (Kd.V_elder' (zV HO_136000) (R_base ho67) hb);replace HO_136001 := Am (Kd.V_elder' (zV HO_136001) (R_base ho67) hb);have HO139 := Am (R_lower ho67 (below_size (zB HB)));replace BK119 := Am (zU BK119 hb);replace BK127 := Am (zU BK127 hb);replace BK135 := Am (zU BK135 hb);replace HB := Am (below_step (zB HB) hb);clear hb ho67;refine hK.out _ _ trivial (fun hHeld => ?_)
           clear hK K;refine norm_ (a' := ?_) ?_ ?_
           rotate_left
           ·show Act.put _ (some 99) _ = _
            simp only [Act.put, zS, i64_w, i32_w]
            rfl
           exact norm_ (by first | (simp only [putAll, Act.put, List.setIfInBounds_toArray, List.set_cons_zero, List.set_cons_succ]; done) | (simp only [putAll, Act.put, List.setIfInBounds_toArray, List.set_cons_zero, List.set_cons_succ]; rfl)) (hJ2 (v138) _ ⟨(zR HO139), (zR HO_10), (zv HO_120000), (zv HO_120001), (zv HO_128000), (zv HO_128001), (zv HO_136000), (zv HO_136001), (zK BK119), (zK BK127), (zK BK135), (zB HB)⟩)
          ·skip
           refine R_make_step Kd.bool _ 4 (by rfl) (N := 101) rfl 47 _ _ rfl t136 rfl rfl Tryd.underlying47 (.bool false) 1 info4 rfl (by decide) (by omega) false (ok := fun _ => True) (okp := fun _ => True) rfl (fun _ hk => hk) trivial (of_decide_eq_true (by assumption)) (Nat.le_trans (Nat.mul_le_mul_right _ (of_decide_eq_true (by assumption) : t136.toNat ≤ 281474976710656)) (by omega)) (Below.refl _ _) (Nat.le_refl _) ?_
           intro v141 w66 ho67 hb hg_ hnew_;clear hg_ hnew_;(first | rw [← Ny140.out] at ho67 | (simp only [Int.reduceToNat] at ho67; rw [← Ny140.out] at ho67))
           replace HO_10 := Am (R_below (zR HO_10) hb);replace HO_120000 := Am (Kd.V_elder' (zV HO_120000) (R_base ho67) hb);replace HO_120001 := Am (Kd.V_elder' (zV HO_120001) (R_base ho67) hb);replace HO_128000 := Am (Kd.V_elder' (zV HO_128000) (R_base ho67) hb);replace HO_128001 := Am (Kd.V_elder' (zV HO_128001) (R_base ho67) hb);replace HO_136000 := Am (Kd.V_elder' (zV HO_136000) (R_base ho67) hb);replace HO_136001 := Am (Kd.V_elder' (zV HO_136001) (R_base ho67) hb);have HO142 := Am (R_lower ho67 (below_size (zB HB)));replace BK119 := Am (zU BK119 hb);replace BK127 := Am (zU BK127 hb);replace BK135 := Am (zU BK135 hb);replace HB := Am (below_step (zB HB) hb);clear hb ho67;refine hK.out _ _ trivial (fun hHeld => ?_)
           clear hK K;refine norm_ (a' := ?_) ?_ ?_
           rotate_left
           ·show Act.put _ (some 101) _ = _
            simp only [Act.put, zS, i64_w, i32_w]
            rfl
           exact norm_ (by first | (simp only [putAll, Act.put, List.setIfInBounds_toArray, List.set_cons_zero, List.set_cons_succ]; done) | (simp only [putAll, Act.put, List.setIfInBounds_toArray, List.set_cons_zero, List.set_cons_succ]; rfl)) (hJ4 (v141) _ ⟨(zR HO142), (zR HO_10), (zv HO_120000), (zv HO_120001), (zv HO_128000), (zv HO_128001), (zv HO_136000), (zv HO_136001), (zK BK119), (zK BK127), (zK BK135), (zB HB)⟩)
          ·skip
           refine box_step ?hg (N := 20) ?hd (cs := #[.slice none 0 0, .slice none 0 0]) (t := 49) ?hr ?_; (case hd => rfl); (case hg => rfl); (case hr => first | (go_simp; done) | (go_simp; rfl))
           intro gb143 hg w66 hbox hb;replace HO_10 := Am (R_below (zR HO_10) hb);replace HO_120000 := Am (Kd.V_below (Kd.V_elderB (zV HO_120000) gb143 (Nat.le_of_eq hg.symm)) hb);replace HO_120001 := Am (Kd.V_below (Kd.V_elderB (zV HO_120001) gb143 (Nat.le_of_eq hg.symm)) hb);replace HO_128000 := Am (Kd.V_below (Kd.V_elderB (zV HO_128000) gb143 (Nat.le_of_eq hg.symm)) hb);replace HO_128001 := Am (Kd.V_below (Kd.V_elderB (zV HO_128001) gb143 (Nat.le_of_eq hg.symm)) hb);replace HO_136000 := Am (Kd.V_below (Kd.V_elderB (zV HO_136000) gb143 (Nat.le_of_eq hg.symm)) hb);replace HO_136001 := Am (Kd.V_below (Kd.V_elderB (zV HO_136001) gb143 (Nat.le_of_eq hg.symm)) hb);have BK143 := Am (hbox);have GW143 := Am (zO (w := w) HB hg);have GE143 := Am (zO (w := w) HB hg);replace HB := Am (below_step (zB HB) hb);have NB119_143 := Am ((by rw [hg]; exact Nat.ne_of_lt (zL BK119) : gb119 ≠ gb143));have NB143_119 := Am ((by rw [hg]; exact Nat.ne_of_gt (zL BK119) : gb143 ≠ gb119));replace BK119 := Am (zU BK119 hb);have NB127_143 := Am ((by rw [hg]; exact Nat.ne_of_lt (zL BK127) : gb127 ≠ gb143));have NB143_127 := Am ((by rw [hg]; exact Nat.ne_of_gt (zL BK127) : gb143 ≠ gb127));replace BK127 := Am (zU BK127 hb);have NB135_143 := Am ((by rw [hg]; exact Nat.ne_of_lt (zL BK135) : gb135 ≠ gb143));have NB143_135 := Am ((by rw [hg]; exact Nat.ne_of_gt (zL BK135) : gb143 ≠ gb135));replace BK135 := Am (zU BK135 hb);clear hb hbox hg;refine hK.out _ _ trivial (fun hHeld => ?_)
           clear hK K;refine norm_ (a' := ?_) ?_ ?_
           rotate_left
           ·show Act.put _ (some 20) _ = _
            simp only [Act.put, zS, i64_w, i32_w]
            rfl
           exact norm_ (by first | (simp only [putAll, Act.put, List.setIfInBounds_toArray, List.set_cons_zero, List.set_cons_succ]; done) | (simp only [putAll, Act.put, List.setIfInBounds_toArray, List.set_cons_zero, List.set_cons_succ]; rfl)) (hJ6 (gb143) _ ⟨(zR HO_10), (zv HO_120000), (zv HO_120001), (zv HO_128000), (zv HO_128001), (zv HO_136000), (zv HO_136001), (zK BK119), (zK BK127), (zK BK135), (zK BK143), GW143.out, GE143.out, NB119_143.out, NB143_119.out, NB127_143.out, NB143_127.out, NB135_143.out, NB143_135.out, (zB HB)⟩)
         ·skip
          rintro gb143 w67 ⟨h0_, h1_, h2_, h3_, h4_, h5_, h6_, h7_, h8_, h9_, h10_, h11_, h12_, h13_, h14_, h15_, h16_, h17_, h18_, h19_⟩
          have n0_ : Aside0 (Kd.R k26 26 w67 w.heap.size (fun _ => True) (.slice Ao16 t105.length co16) t105) := ⟨h0_⟩
          have n1_ : Aside0 (Kd.V Kd.string 9 w67 w.heap.size (fun k_ => some k_ ≠ (.slice Ao16 t105.length co16 : Value).ownBlock ∧ k_ ≠ gb119 ∧ k_ ≠ gb127 ∧ k_ ≠ gb135 ∧ k_ ≠ gb143) (.slice Ao20 t112.length co20) t112) := ⟨h1_⟩
          have n2_ : Aside0 (Kd.V Kd.bool 4 w67 w.heap.size (fun k_ => some k_ ≠ (.slice Ao16 t105.length co16 : Value).ownBlock ∧ k_ ≠ gb119 ∧ k_ ≠ gb127 ∧ k_ ≠ gb135 ∧ k_ ≠ gb143) (.slice Ao22 t115.length co22) t115) := ⟨h2_⟩
          have n3_ : Aside0 (Kd.V Kd.string 9 w67 w.heap.size (fun k_ => some k_ ≠ (.slice Ao16 t105.length co16 : Value).ownBlock ∧ k_ ≠ gb119 ∧ k_ ≠ gb127 ∧ k_ ≠ gb135 ∧ k_ ≠ gb143) (.slice Ao25 t120.length co25) t120) := ⟨h3_⟩
          have n4_ : Aside0 (Kd.V Kd.bool 4 w67 w.heap.size (fun k_ => some k_ ≠ (.slice Ao16 t105.length co16 : Value).ownBlock ∧ k_ ≠ gb119 ∧ k_ ≠ gb127 ∧ k_ ≠ gb135 ∧ k_ ≠ gb143) (.slice Ao28 t123.length co28) t123) := ⟨h4_⟩
          have n5_ : Aside0 (Kd.V Kd.string 9 w67 w.heap.size (fun k_ => some k_ ≠ (.slice Ao16 t105.length co16 : Value).ownBlock ∧ k_ ≠ gb119 ∧ k_ ≠ gb127 ∧ k_ ≠ gb135 ∧ k_ ≠ gb143) (.slice Ao32 t128.length co32) t128) := ⟨h5_⟩
          have n6_ : Aside0 (Kd.V Kd.bool 4 w67 w.heap.size (fun k_ => some k_ ≠ (.slice Ao16 t105.length co16 : Value).ownBlock ∧ k_ ≠ gb119 ∧ k_ ≠ gb127 ∧ k_ ≠ gb135 ∧ k_ ≠ gb143) (.slice Ao36 t131.length co36) t131) := ⟨h6_⟩
          have n7_ : Aside0 (w67.heap[gb119]? = some (.cells #[.slice Ao20 t112.length co20, .slice Ao22 t115.length co22] 49 (0, 0))) := ⟨h7_⟩
          have n8_ : Aside0 (w67.heap[gb127]? = some (.cells #[.slice Ao25 t120.length co25, .slice Ao28 t123.length co28] 49 (0, 0))) := ⟨h8_⟩
          have n9_ : Aside0 (w67.heap[gb135]? = some (.cells #[.slice Ao32 t128.length co32, .slice Ao36 t131.length co36] 49 (0, 0))) := ⟨h9_⟩
          have n10_ : Aside0 (w67.heap[gb143]? = some (.cells #[.slice none 0 0, .slice none 0 0] 49 (0, 0))) := ⟨h10_⟩
          have n11_ : Aside0 (w.heap.size ≤ gb143) := ⟨h11_⟩
          have n12_ : Aside0 (w.heap.size ≤ gb143) := ⟨h12_⟩
          have n13_ : Aside0 (gb119 ≠ gb143) := ⟨h13_⟩
          have n14_ : Aside0 (gb143 ≠ gb119) := ⟨h14_⟩
          have n15_ : Aside0 (gb127 ≠ gb143) := ⟨h15_⟩
          have n16_ : Aside0 (gb143 ≠ gb127) := ⟨h16_⟩
          have n17_ : Aside0 (gb135 ≠ gb143) := ⟨h17_⟩
          have n18_ : Aside0 (gb143 ≠ gb135) := ⟨h18_⟩
          have n19_ : Aside0 (Below w.heap.size w w67) := ⟨h19_⟩
          clear HO_10 HO_120000 HO_120001 HO_128000 HO_128001 HO_136000 HO_136001 BK119 BK127 BK135 HB h0_ h1_ h2_ h3_ h4_ h5_ h6_ h7_ h8_ h9_ h10_ h11_ h12_ h13_ h14_ h15_ h16_ h17_ h18_ h19_;have HO_10 := n0_;have HO_120000 := n1_;have HO_120001 := n2_;have HO_128000 := n3_;have HO_128001 := n4_;have HO_136000 := n5_;have HO_136001 := n6_;have BK119 := n7_;have BK127 := n8_;have BK135 := n9_;have BK143 := n10_;have GW143 := n11_;have GE143 := n12_;have NB119_143 := n13_;have NB143_119 := n14_;have NB127_143 := n15_;have NB143_127 := n16_;have NB135_143 := n17_;have NB143_135 := n18_;have HB := n19_;clear n0_ n1_ n2_ n3_ n4_ n5_ n6_ n7_ n8_ n9_ n10_ n11_ n12_ n13_ n14_ n15_ n16_ n17_ n18_ n19_;have hHeld := trivial
          refine norm_ (a' := ?_) ?_ ?_
          rotate_left
          ·simp only [putAll, Act.put, List.setIfInBounds_toArray, List.set_cons_zero, List.set_cons_succ]
           rfl
          refine two_ (i := 2) (j := 4) (Ni := some 99) (Nj := some 101) #[true, true, true, true, false, false, true, false] #[true, true, false, true, true, false, true, false] rfl rfl rfl rfl (two_of HT_.out (by kernel_rfl)) (by decide) (by decide) (fun K hK => ?_) (fun K hK => ?_)
          ·skip
           refine R_make_step Kd.string _ 9 (by rfl) (N := 99) rfl 46 _ _ rfl ji59 rfl rfl Tryd.underlying46 (.string ⟨#[]⟩) 16 info9 rfl (by decide) (by omega) (⟨#[]⟩ : ByteArray) (ok := fun _ => True) (okp := fun _ => True) rfl (fun _ hk => hk) trivial (of_decide_eq_true (by assumption)) (Nat.le_trans (Nat.mul_le_mul_right _ (of_decide_eq_true (by assumption) : ji59.toNat ≤ 17592186044416)) (by omega)) (Below.refl _ _) (Nat.le_refl _) ?_
           intro v138 w68 ho69 hb hg_ hnew_;clear hg_ hnew_;(first | rw [← Ny137.out] at ho69 | (simp only [Int.reduceToNat] at ho69; rw [← Ny137.out] at ho69))
           replace HO_10 := Am (R_below (zR HO_10) hb);replace HO_120000 := Am (Kd.V_elder' (zV HO_120000) (R_base ho69) hb);replace HO_120001 := Am (Kd.V_elder' (zV HO_120001) (R_base ho69) hb);replace HO_128000 := Am (Kd.V_elder' (zV HO_128000) (R_base ho69) hb);replace HO_128001 := Am (Kd.V_elder' (zV HO_128001) (R_base ho69) hb);replace HO_136000 := Am (Kd.V_elder' (zV HO_136000) (R_base ho69) hb);replace HO_136001 := Am (Kd.V_elder' (zV HO_136001) (R_base ho69) hb);have HO139 := Am (R_lower ho69 (below_size (zB HB)));replace BK119 := Am (zU BK119 hb);replace BK127 := Am (zU BK127 hb);replace BK135 := Am (zU BK135 hb);replace BK143 := Am (zU BK143 hb);replace HB := Am (below_step (zB HB) hb);clear hb ho69;refine hK.out _ _ trivial (fun hHeld => ?_)
           clear hK K;refine norm_ (a' := ?_) ?_ ?_
           rotate_left
           ·show Act.put _ (some 99) _ = _
            simp only [Act.put, zS, i64_w, i32_w]
            rfl
           exact norm_ (by first | (simp only [putAll, Act.put, List.setIfInBounds_toArray, List.set_cons_zero, List.set_cons_succ]; done) | (simp only [putAll, Act.put, List.setIfInBounds_toArray, List.set_cons_zero, List.set_cons_succ]; rfl)) (hJ2_6 (v138, gb143) _ ⟨(zR HO139), (zR HO_10), (zv HO_120000), (zv HO_120001), (zv HO_128000), (zv HO_128001), (zv HO_136000), (zv HO_136001), (zK BK119), (zK BK127), (zK BK135), (zK BK143), GW143.out, GE143.out, NB119_143.out, NB143_119.out, NB127_143.out, NB143_127.out, NB135_143.out, NB143_135.out, (zB HB)⟩)
          ·skip
           refine R_make_step Kd.bool _ 4 (by rfl) (N := 101) rfl 47 _ _ rfl t136 rfl rfl Tryd.underlying47 (.bool false) 1 info4 rfl (by decide) (by omega) false (ok := fun _ => True) (okp := fun _ => True) rfl (fun _ hk => hk) trivial (of_decide_eq_true (by assumption)) (Nat.le_trans (Nat.mul_le_mul_right _ (of_decide_eq_true (by assumption) : t136.toNat ≤ 281474976710656)) (by omega)) (Below.refl _ _) (Nat.le_refl _) ?_
           intro v141 w68 ho69 hb hg_ hnew_;clear hg_ hnew_;(first | rw [← Ny140.out] at ho69 | (simp only [Int.reduceToNat] at ho69; rw [← Ny140.out] at ho69))
           replace HO_10 := Am (R_below (zR HO_10) hb);replace HO_120000 := Am (Kd.V_elder' (zV HO_120000) (R_base ho69) hb);replace HO_120001 := Am (Kd.V_elder' (zV HO_120001) (R_base ho69) hb);replace HO_128000 := Am (Kd.V_elder' (zV HO_128000) (R_base ho69) hb);replace HO_128001 := Am (Kd.V_elder' (zV HO_128001) (R_base ho69) hb);replace HO_136000 := Am (Kd.V_elder' (zV HO_136000) (R_base ho69) hb);replace HO_136001 := Am (Kd.V_elder' (zV HO_136001) (R_base ho69) hb);have HO142 := Am (R_lower ho69 (below_size (zB HB)));replace BK119 := Am (zU BK119 hb);replace BK127 := Am (zU BK127 hb);replace BK135 := Am (zU BK135 hb);replace BK143 := Am (zU BK143 hb);replace HB := Am (below_step (zB HB) hb);clear hb ho69;refine hK.out _ _ trivial (fun hHeld => ?_)
           clear hK K;refine norm_ (a' := ?_) ?_ ?_
           rotate_left
           ·show Act.put _ (some 101) _ = _
            simp only [Act.put, zS, i64_w, i32_w]
            rfl
           exact norm_ (by first | (simp only [putAll, Act.put, List.setIfInBounds_toArray, List.set_cons_zero, List.set_cons_succ]; done) | (simp only [putAll, Act.put, List.setIfInBounds_toArray, List.set_cons_zero, List.set_cons_succ]; rfl)) (hJ4_6 (v141, gb143) _ ⟨(zR HO142), (zR HO_10), (zv HO_120000), (zv HO_120001), (zv HO_128000), (zv HO_128001), (zv HO_136000), (zv HO_136001), (zK BK119), (zK BK127), (zK BK135), (zK BK143), GW143.out, GE143.out, NB119_143.out, NB143_119.out, NB127_143.out, NB143_127.out, NB135_143.out, NB143_135.out, (zB HB)⟩)
        ·skip
         rintro v141 w68 ⟨h0_, h1_, h2_, h3_, h4_, h5_, h6_, h7_, h8_, h9_, h10_, h11_⟩
         have n0_ : Aside0 (Kd.R Kd.bool 4 w68 w.heap.size (fun _ => True) v141 y140) := ⟨h0_⟩
         have n1_ : Aside0 (Kd.R k26 26 w68 w.heap.size (fun _ => True) (.slice Ao16 t105.length co16) t105) := ⟨h1_⟩
         have n2_ : Aside0 (Kd.V Kd.string 9 w68 w.heap.size (fun k_ => some k_ ≠ (v141 : Value).ownBlock ∧ some k_ ≠ (.slice Ao16 t105.length co16 : Value).ownBlock ∧ k_ ≠ gb119 ∧ k_ ≠ gb127 ∧ k_ ≠ gb135) (.slice Ao20 t112.length co20) t112) := ⟨h2_⟩
         have n3_ : Aside0 (Kd.V Kd.bool 4 w68 w.heap.size (fun k_ => some k_ ≠ (v141 : Value).ownBlock ∧ some k_ ≠ (.slice Ao16 t105.length co16 : Value).ownBlock ∧ k_ ≠ gb119 ∧ k_ ≠ gb127 ∧ k_ ≠ gb135) (.slice Ao22 t115.length co22) t115) := ⟨h3_⟩
         have n4_ : Aside0 (Kd.V Kd.string 9 w68 w.heap.size (fun k_ => some k_ ≠ (v141 : Value).ownBlock ∧ some k_ ≠ (.slice Ao16 t105.length co16 : Value).ownBlock ∧ k_ ≠ gb119 ∧ k_ ≠ gb127 ∧ k_ ≠ gb135) (.slice Ao25 t120.length co25) t120) := ⟨h4_⟩
         have n5_ : Aside0 (Kd.V Kd.bool 4 w68 w.heap.size (fun k_ => some k_ ≠ (v141 : Value).ownBlock ∧ some k_ ≠ (.slice Ao16 t105.length co16 : Value).ownBlock ∧ k_ ≠ gb119 ∧ k_ ≠ gb127 ∧ k_ ≠ gb135) (.slice Ao28 t123.length co28) t123) := ⟨h5_⟩
         have n6_ : Aside0 (Kd.V Kd.string 9 w68 w.heap.size (fun k_ => some k_ ≠ (v141 : Value).ownBlock ∧ some k_ ≠ (.slice Ao16 t105.length co16 : Value).ownBlock ∧ k_ ≠ gb119 ∧ k_ ≠ gb127 ∧ k_ ≠ gb135) (.slice Ao32 t128.length co32) t128) := ⟨h6_⟩
         have n7_ : Aside0 (Kd.V Kd.bool 4 w68 w.heap.size (fun k_ => some k_ ≠ (v141 : Value).ownBlock ∧ some k_ ≠ (.slice Ao16 t105.length co16 : Value).ownBlock ∧ k_ ≠ gb119 ∧ k_ ≠ gb127 ∧ k_ ≠ gb135) (.slice Ao36 t131.length co36) t131) := ⟨h7_⟩
         have n8_ : Aside0 (w68.heap[gb119]? = some (.cells #[.slice Ao20 t112.length co20, .slice Ao22 t115.length co22] 49 (0, 0))) := ⟨h8_⟩
         have n9_ : Aside0 (w68.heap[gb127]? = some (.cells #[.slice Ao25 t120.length co25, .slice Ao28 t123.length co28] 49 (0, 0))) := ⟨h9_⟩
         have n10_ : Aside0 (w68.heap[gb135]? = some (.cells #[.slice Ao32 t128.length co32, .slice Ao36 t131.length co36] 49 (0, 0))) := ⟨h10_⟩
         have n11_ : Aside0 (Below w.heap.size w w68) := ⟨h11_⟩
         clear HO_10 HO_120000 HO_120001 HO_128000 HO_128001 HO_136000 HO_136001 BK119 BK127 BK135 HB h0_ h1_ h2_ h3_ h4_ h5_ h6_ h7_ h8_ h9_ h10_ h11_;have HO142 := n0_;have HO_10 := n1_;have HO_120000 := n2_;have HO_120001 := n3_;have HO_128000 := n4_;have HO_128001 := n5_;have HO_136000 := n6_;have HO_136001 := n7_;have BK119 := n8_;have BK127 := n9_;have BK135 := n10_;have HB := n11_;clear n0_ n1_ n2_ n3_ n4_ n5_ n6_ n7_ n8_ n9_ n10_ n11_;have hHeld := trivial
         refine norm_ (a' := ?_) ?_ ?_
         rotate_left
         ·simp only [putAll, Act.put, List.setIfInBounds_toArray, List.set_cons_zero, List.set_cons_succ]
          rfl
         refine two_ (i := 2) (j := 6) (Ni := some 99) (Nj := some 20) #[true, true, true, true, true, false, false, false] #[true, true, false, true, true, false, true, false] rfl rfl rfl rfl (two_of HT_.out (by kernel_rfl)) (by decide) (by decide) (fun K hK => ?_) (fun K hK => ?_)
         ·skip
          refine R_make_step Kd.string _ 9 (by rfl) (N := 99) rfl 46 _ _ rfl ji59 rfl rfl Tryd.underlying46 (.string ⟨#[]⟩) 16 info9 rfl (by decide) (by omega) (⟨#[]⟩ : ByteArray) (ok := fun _ => True) (okp := fun _ => True) rfl (fun _ hk => hk) trivial (of_decide_eq_true (by assumption)) (Nat.le_trans (Nat.mul_le_mul_right _ (of_decide_eq_true (by assumption) : ji59.toNat ≤ 17592186044416)) (by omega)) (Below.refl _ _) (Nat.le_refl _) ?_
          intro v138 w69 ho70 hb hg_ hnew_;clear hg_ hnew_;(first | rw [← Ny137.out] at ho70 | (simp only [Int.reduceToNat] at ho70; rw [← Ny137.out] at ho70))
          replace HO_10 := Am (R_below (zR HO_10) hb);replace HO_120000 := Am (Kd.V_elder' (zV HO_120000) (R_base ho70) hb);replace HO_120001 := Am (Kd.V_elder' (zV HO_120001) (R_base ho70) hb);replace HO_128000 := Am (Kd.V_elder' (zV HO_128000) (R_base ho70) hb);replace HO_128001 := Am (Kd.V_elder' (zV HO_128001) (R_base ho70) hb);replace HO_136000 := Am (Kd.V_elder' (zV HO_136000) (R_base ho70) hb);replace HO_136001 := Am (Kd.V_elder' (zV HO_136001) (R_base ho70) hb);replace HO142 := Am (R_below (zR HO142) hb);have HO139 := Am (R_lower ho70 (below_size (zB HB)));replace BK119 := Am (zU BK119 hb);replace BK127 := Am (zU BK127 hb);replace BK135 := Am (zU BK135 hb);replace HB := Am (below_step (zB HB) hb);clear hb ho70;obtain ⟨Ao71, co71, eo71⟩ := R_slice HO142.out
          (first | subst eo71 | (injection eo71 with f1_ f2_ f3_; have f4_ := f1_.symm; have f5_ := f3_.symm; clear f1_ f2_ f3_; subst f4_; subst f5_))
          obtain ⟨Ao72, co72, eo72⟩ := R_slice HO139.out
          (first | subst eo72 | (injection eo72 with f1_ f2_ f3_; have f4_ := f1_.symm; have f5_ := f3_.symm; clear f1_ f2_ f3_; subst f4_; subst f5_))
          refine hK.out _ _ trivial (fun hHeld => ?_)
          clear hK K;refine norm_ (a' := ?_) ?_ ?_
          rotate_left
          ·show Act.put _ (some 99) _ = _
           simp only [Act.put, zS, i64_w, i32_w]
           rfl
          refine pure_ (i := 5) (N := some 102) (v := ?_) (a' := ?_) #[true, true, true, true, true, true, false, false] rfl rfl (any_of HT_.out (by kernel_rfl)) (fun _ _ _ h => h) (Or.inl ⟨by rfl, ?_⟩) ?_ ?_
          rotate_left
          ·intro w'
           go_simp;with_reducible rfl
          rotate_left
          ·simp only [Act.put, zS, i64_w, i32_w]
           rfl
          exact norm_ (by first | (simp only [putAll, Act.put, List.setIfInBounds_toArray, List.set_cons_zero, List.set_cons_succ]; done) | (simp only [putAll, Act.put, List.setIfInBounds_toArray, List.set_cons_zero, List.set_cons_succ]; rfl)) (hJ2_4 (.slice Ao72 y137.length co72, .slice Ao71 y140.length co71) _ ⟨(zR HO139), (zR HO142), (zR HO_10), (zv HO_120000), (zv HO_120001), (zv HO_128000), (zv HO_128001), (zv HO_136000), (zv HO_136001), (zK BK119), (zK BK127), (zK BK135), (zB HB)⟩)
         ·skip
          refine box_step ?hg (N := 20) ?hd (cs := #[.slice none 0 0, .slice none 0 0]) (t := 49) ?hr ?_; (case hd => rfl); (case hg => rfl); (case hr => first | (go_simp; done) | (go_simp; rfl))
          intro gb143 hg w69 hbox hb;replace HO_10 := Am (R_below (zR HO_10) hb);replace HO_120000 := Am (Kd.V_below (Kd.V_elderB (zV HO_120000) gb143 (Nat.le_of_eq hg.symm)) hb);replace HO_120001 := Am (Kd.V_below (Kd.V_elderB (zV HO_120001) gb143 (Nat.le_of_eq hg.symm)) hb);replace HO_128000 := Am (Kd.V_below (Kd.V_elderB (zV HO_128000) gb143 (Nat.le_of_eq hg.symm)) hb);replace HO_128001 := Am (Kd.V_below (Kd.V_elderB (zV HO_128001) gb143 (Nat.le_of_eq hg.symm)) hb);replace HO_136000 := Am (Kd.V_below (Kd.V_elderB (zV HO_136000) gb143 (Nat.le_of_eq hg.symm)) hb);replace HO_136001 := Am (Kd.V_below (Kd.V_elderB (zV HO_136001) gb143 (Nat.le_of_eq hg.symm)) hb);replace HO142 := Am (R_below (zR HO142) hb);have BK143 := Am (hbox);have GW143 := Am (zO (w := w) HB hg);have GE143 := Am (zO (w := w) HB hg);replace HB := Am (below_step (zB HB) hb);have NB119_143 := Am ((by rw [hg]; exact Nat.ne_of_lt (zL BK119) : gb119 ≠ gb143));have NB143_119 := Am ((by rw [hg]; exact Nat.ne_of_gt (zL BK119) : gb143 ≠ gb119));replace BK119 := Am (zU BK119 hb);have NB127_143 := Am ((by rw [hg]; exact Nat.ne_of_lt (zL BK127) : gb127 ≠ gb143));have NB143_127 := Am ((by rw [hg]; exact Nat.ne_of_gt (zL BK127) : gb143 ≠ gb127));replace BK127 := Am (zU BK127 hb);have NB135_143 := Am ((by rw [hg]; exact Nat.ne_of_lt (zL BK135) : gb135 ≠ gb143));have NB143_135 := Am ((by rw [hg]; exact Nat.ne_of_gt (zL BK135) : gb143 ≠ gb135));replace BK135 := Am (zU BK135 hb);clear hb hbox hg;refine hK.out _ _ trivial (fun hHeld => ?_)
          clear hK K;refine norm_ (a' := ?_) ?_ ?_
          rotate_left
          ·show Act.put _ (some 20) _ = _
           simp only [Act.put, zS, i64_w, i32_w]
           rfl
          exact norm_ (by first | (simp only [putAll, Act.put, List.setIfInBounds_toArray, List.set_cons_zero, List.set_cons_succ]; done) | (simp only [putAll, Act.put, List.setIfInBounds_toArray, List.set_cons_zero, List.set_cons_succ]; rfl)) (hJ4_6 (v141, gb143) _ ⟨(zR HO142), (zR HO_10), (zv HO_120000), (zv HO_120001), (zv HO_128000), (zv HO_128001), (zv HO_136000), (zv HO_136001), (zK BK119), (zK BK127), (zK BK135), (zK BK143), GW143.out, GE143.out, NB119_143.out, NB143_119.out, NB127_143.out, NB143_127.out, NB135_143.out, NB143_135.out, (zB HB)⟩)
       ·skip
        rintro v138 w68 ⟨h0_, h1_, h2_, h3_, h4_, h5_, h6_, h7_, h8_, h9_, h10_, h11_⟩
        have n0_ : Aside0 (Kd.R Kd.string 9 w68 w.heap.size (fun _ => True) v138 y137) := ⟨h0_⟩
        have n1_ : Aside0 (Kd.R k26 26 w68 w.heap.size (fun _ => True) (.slice Ao16 t105.length co16) t105) := ⟨h1_⟩
        have n2_ : Aside0 (Kd.V Kd.string 9 w68 w.heap.size (fun k_ => some k_ ≠ (v138 : Value).ownBlock ∧ some k_ ≠ (.slice Ao16 t105.length co16 : Value).ownBlock ∧ k_ ≠ gb119 ∧ k_ ≠ gb127 ∧ k_ ≠ gb135) (.slice Ao20 t112.length co20) t112) := ⟨h2_⟩
        have n3_ : Aside0 (Kd.V Kd.bool 4 w68 w.heap.size (fun k_ => some k_ ≠ (v138 : Value).ownBlock ∧ some k_ ≠ (.slice Ao16 t105.length co16 : Value).ownBlock ∧ k_ ≠ gb119 ∧ k_ ≠ gb127 ∧ k_ ≠ gb135) (.slice Ao22 t115.length co22) t115) := ⟨h3_⟩
        have n4_ : Aside0 (Kd.V Kd.string 9 w68 w.heap.size (fun k_ => some k_ ≠ (v138 : Value).ownBlock ∧ some k_ ≠ (.slice Ao16 t105.length co16 : Value).ownBlock ∧ k_ ≠ gb119 ∧ k_ ≠ gb127 ∧ k_ ≠ gb135) (.slice Ao25 t120.length co25) t120) := ⟨h4_⟩
        have n5_ : Aside0 (Kd.V Kd.bool 4 w68 w.heap.size (fun k_ => some k_ ≠ (v138 : Value).ownBlock ∧ some k_ ≠ (.slice Ao16 t105.length co16 : Value).ownBlock ∧ k_ ≠ gb119 ∧ k_ ≠ gb127 ∧ k_ ≠ gb135) (.slice Ao28 t123.length co28) t123) := ⟨h5_⟩
        have n6_ : Aside0 (Kd.V Kd.string 9 w68 w.heap.size (fun k_ => some k_ ≠ (v138 : Value).ownBlock ∧ some k_ ≠ (.slice Ao16 t105.length co16 : Value).ownBlock ∧ k_ ≠ gb119 ∧ k_ ≠ gb127 ∧ k_ ≠ gb135) (.slice Ao32 t128.length co32) t128) := ⟨h6_⟩
        have n7_ : Aside0 (Kd.V Kd.bool 4 w68 w.heap.size (fun k_ => some k_ ≠ (v138 : Value).ownBlock ∧ some k_ ≠ (.slice Ao16 t105.length co16 : Value).ownBlock ∧ k_ ≠ gb119 ∧ k_ ≠ gb127 ∧ k_ ≠ gb135) (.slice Ao36 t131.length co36) t131) := ⟨h7_⟩
        have n8_ : Aside0 (w68.heap[gb119]? = some (.cells #[.slice Ao20 t112.length co20, .slice Ao22 t115.length co22] 49 (0, 0))) := ⟨h8_⟩
        have n9_ : Aside0 (w68.heap[gb127]? = some (.cells #[.slice Ao25 t120.length co25, .slice Ao28 t123.length co28] 49 (0, 0))) := ⟨h9_⟩
        have n10_ : Aside0 (w68.heap[gb135]? = some (.cells #[.slice Ao32 t128.length co32, .slice Ao36 t131.length co36] 49 (0, 0))) := ⟨h10_⟩
        have n11_ : Aside0 (Below w.heap.size w w68) := ⟨h11_⟩
        clear HO_10 HO_120000 HO_120001 HO_128000 HO_128001 HO_136000 HO_136001 BK119 BK127 BK135 HB h0_ h1_ h2_ h3_ h4_ h5_ h6_ h7_ h8_ h9_ h10_ h11_;have HO139 := n0_;have HO_10 := n1_;have HO_120000 := n2_;have HO_120001 := n3_;have HO_128000 := n4_;have HO_128001 := n5_;have HO_136000 := n6_;have HO_136001 := n7_;have BK119 := n8_;have BK127 := n9_;have BK135 := n10_;have HB := n11_;clear n0_ n1_ n2_ n3_ n4_ n5_ n6_ n7_ n8_ n9_ n10_ n11_;have hHeld := trivial
        refine norm_ (a' := ?_) ?_ ?_
        rotate_left
        ·simp only [putAll, Act.put, List.setIfInBounds_toArray, List.set_cons_zero, List.set_cons_succ]
         rfl
        refine two_ (i := 4) (j := 6) (Ni := some 101) (Nj := some 20) #[true, true, true, true, true, false, false, false] #[true, true, true, true, false, false, true, false] rfl rfl rfl rfl (two_of HT_.out (by kernel_rfl)) (by decide) (by decide) (fun K hK => ?_) (fun K hK => ?_)
        ·skip
         refine R_make_step Kd.bool _ 4 (by rfl) (N := 101) rfl 47 _ _ rfl t136 rfl rfl Tryd.underlying47 (.bool false) 1 info4 rfl (by decide) (by omega) false (ok := fun _ => True) (okp := fun _ => True) rfl (fun _ hk => hk) trivial (of_decide_eq_true (by assumption)) (Nat.le_trans (Nat.mul_le_mul_right _ (of_decide_eq_true (by assumption) : t136.toNat ≤ 281474976710656)) (by omega)) (Below.refl _ _) (Nat.le_refl _) ?_
         intro v141 w69 ho70 hb hg_ hnew_;clear hg_ hnew_;(first | rw [← Ny140.out] at ho70 | (simp only [Int.reduceToNat] at ho70; rw [← Ny140.out] at ho70))
         replace HO_10 := Am (R_below (zR HO_10) hb);replace HO_120000 := Am (Kd.V_elder' (zV HO_120000) (R_base ho70) hb);replace HO_120001 := Am (Kd.V_elder' (zV HO_120001) (R_base ho70) hb);replace HO_128000 := Am (Kd.V_elder' (zV HO_128000) (R_base ho70) hb);replace HO_128001 := Am (Kd.V_elder' (zV HO_128001) (R_base ho70) hb);replace HO_136000 := Am (Kd.V_elder' (zV HO_136000) (R_base ho70) hb);replace HO_136001 := Am (Kd.V_elder' (zV HO_136001) (R_base ho70) hb);replace HO139 := Am (R_below (zR HO139) hb);have HO142 := Am (R_lower ho70 (below_size (zB HB)));replace BK119 := Am (zU BK119 hb);replace BK127 := Am (zU BK127 hb);replace BK135 := Am (zU BK135 hb);replace HB := Am (below_step (zB HB) hb);clear hb ho70;obtain ⟨Ao71, co71, eo71⟩ := R_slice HO142.out
         (first | subst eo71 | (injection eo71 with f1_ f2_ f3_; have f4_ := f1_.symm; have f5_ := f3_.symm; clear f1_ f2_ f3_; subst f4_; subst f5_))
         obtain ⟨Ao72, co72, eo72⟩ := R_slice HO139.out
         (first | subst eo72 | (injection eo72 with f1_ f2_ f3_; have f4_ := f1_.symm; have f5_ := f3_.symm; clear f1_ f2_ f3_; subst f4_; subst f5_))
         refine hK.out _ _ trivial (fun hHeld => ?_)
         clear hK K;refine norm_ (a' := ?_) ?_ ?_
         rotate_left
         ·show Act.put _ (some 101) _ = _
          simp only [Act.put, zS, i64_w, i32_w]
          rfl
         refine pure_ (i := 5) (N := some 102) (v := ?_) (a' := ?_) #[true, true, true, true, true, true, false, false] rfl rfl (any_of HT_.out (by kernel_rfl)) (fun _ _ _ h => h) (Or.inl ⟨by rfl, ?_⟩) ?_ ?_
         rotate_left
         ·intro w'
          go_simp;with_reducible rfl
         rotate_left
         ·simp only [Act.put, zS, i64_w, i32_w]
          rfl
         exact norm_ (by first | (simp only [putAll, Act.put, List.setIfInBounds_toArray, List.set_cons_zero, List.set_cons_succ]; done) | (simp only [putAll, Act.put, List.setIfInBounds_toArray, List.set_cons_zero, List.set_cons_succ]; rfl)) (hJ2_4 (.slice Ao72 y137.length co72, .slice Ao71 y140.length co71) _ ⟨(zR HO139), (zR HO142), (zR HO_10), (zv HO_120000), (zv HO_120001), (zv HO_128000), (zv HO_128001), (zv HO_136000), (zv HO_136001), (zK BK119), (zK BK127), (zK BK135), (zB HB)⟩)
        ·skip
         refine box_step ?hg (N := 20) ?hd (cs := #[.slice none 0 0, .slice none 0 0]) (t := 49) ?hr ?_; (case hd => rfl); (case hg => rfl); (case hr => first | (go_simp; done) | (go_simp; rfl))
         intro gb143 hg w69 hbox hb;replace HO_10 := Am (R_below (zR HO_10) hb);replace HO_120000 := Am (Kd.V_below (Kd.V_elderB (zV HO_120000) gb143 (Nat.le_of_eq hg.symm)) hb);replace HO_120001 := Am (Kd.V_below (Kd.V_elderB (zV HO_120001) gb143 (Nat.le_of_eq hg.symm)) hb);replace HO_128000 := Am (Kd.V_below (Kd.V_elderB (zV HO_128000) gb143 (Nat.le_of_eq hg.symm)) hb);replace HO_128001 := Am (Kd.V_below (Kd.V_elderB (zV HO_128001) gb143 (Nat.le_of_eq hg.symm)) hb);replace HO_136000 := Am (Kd.V_below (Kd.V_elderB (zV HO_136000) gb143 (Nat.le_of_eq hg.symm)) hb);replace HO_136001 := Am (Kd.V_below (Kd.V_elderB (zV HO_136001) gb143 (Nat.le_of_eq hg.symm)) hb);replace HO139 := Am (R_below (zR HO139) hb);have BK143 := Am (hbox);have GW143 := Am (zO (w := w) HB hg);have GE143 := Am (zO (w := w) HB hg);replace HB := Am (below_step (zB HB) hb);have NB119_143 := Am ((by rw [hg]; exact Nat.ne_of_lt (zL BK119) : gb119 ≠ gb143));have NB143_119 := Am ((by rw [hg]; exact Nat.ne_of_gt (zL BK119) : gb143 ≠ gb119));replace BK119 := Am (zU BK119 hb);have NB127_143 := Am ((by rw [hg]; exact Nat.ne_of_lt (zL BK127) : gb127 ≠ gb143));have NB143_127 := Am ((by rw [hg]; exact Nat.ne_of_gt (zL BK127) : gb143 ≠ gb127));replace BK127 := Am (zU BK127 hb);have NB135_143 := Am ((by rw [hg]; exact Nat.ne_of_lt (zL BK135) : gb135 ≠ gb143));have NB143_135 := Am ((by rw [hg]; exact Nat.ne_of_gt (zL BK135) : gb143 ≠ gb135));replace BK135 := Am (zU BK135 hb);clear hb hbox hg;refine hK.out _ _ trivial (fun hHeld => ?_)
         clear hK K;refine norm_ (a' := ?_) ?_ ?_
         rotate_left
         ·show Act.put _ (some 20) _ = _
          simp only [Act.put, zS, i64_w, i32_w]
          rfl
         exact norm_ (by first | (simp only [putAll, Act.put, List.setIfInBounds_toArray, List.set_cons_zero, List.set_cons_succ]; done) | (simp only [putAll, Act.put, List.setIfInBounds_toArray, List.set_cons_zero, List.set_cons_succ]; rfl)) (hJ2_6 (v138, gb143) _ ⟨(zR HO139), (zR HO_10), (zv HO_120000), (zv HO_120001), (zv HO_128000), (zv HO_128001), (zv HO_136000), (zv HO_136001), (zK BK119), (zK BK127), (zK BK135), (zK BK143), GW143.out, GE143.out, NB119_143.out, NB143_119.out, NB127_143.out, NB143_127.out, NB135_143.out, NB143_135.out, (zB HB)⟩)
      ·skip
       rintro ⟨v141, gb143⟩ w69 ⟨h0_, h1_, h2_, h3_, h4_, h5_, h6_, h7_, h8_, h9_, h10_, h11_, h12_, h13_, h14_, h15_, h16_, h17_, h18_, h19_, h20_⟩
       have n0_ : Aside0 (Kd.R Kd.bool 4 w69 w.heap.size (fun _ => True) v141 y140) := ⟨h0_⟩
       have n1_ : Aside0 (Kd.R k26 26 w69 w.heap.size (fun _ => True) (.slice Ao16 t105.length co16) t105) := ⟨h1_⟩
       have n2_ : Aside0 (Kd.V Kd.string 9 w69 w.heap.size (fun k_ => some k_ ≠ (v141 : Value).ownBlock ∧ some k_ ≠ (.slice Ao16 t105.length co16 : Value).ownBlock ∧ k_ ≠ gb119 ∧ k_ ≠ gb127 ∧ k_ ≠ gb135 ∧ k_ ≠ gb143) (.slice Ao20 t112.length co20) t112) := ⟨h2_⟩
       have n3_ : Aside0 (Kd.V Kd.bool 4 w69 w.heap.size (fun k_ => some k_ ≠ (v141 : Value).ownBlock ∧ some k_ ≠ (.slice Ao16 t105.length co16 : Value).ownBlock ∧ k_ ≠ gb119 ∧ k_ ≠ gb127 ∧ k_ ≠ gb135 ∧ k_ ≠ gb143) (.slice Ao22 t115.length co22) t115) := ⟨h3_⟩
       have n4_ : Aside0 (Kd.V Kd.string 9 w69 w.heap.size (fun k_ => some k_ ≠ (v141 : Value).ownBlock ∧ some k_ ≠ (.slice Ao16 t105.length co16 : Value).ownBlock ∧ k_ ≠ gb119 ∧ k_ ≠ gb127 ∧ k_ ≠ gb135 ∧ k_ ≠ gb143) (.slice Ao25 t120.length co25) t120) := ⟨h4_⟩
       have n5_ : Aside0 (Kd.V Kd.bool 4 w69 w.heap.size (fun k_ => some k_ ≠ (v141 : Value).ownBlock ∧ some k_ ≠ (.slice Ao16 t105.length co16 : Value).ownBlock ∧ k_ ≠ gb119 ∧ k_ ≠ gb127 ∧ k_ ≠ gb135 ∧ k_ ≠ gb143) (.slice Ao28 t123.length co28) t123) := ⟨h5_⟩
       have n6_ : Aside0 (Kd.V Kd.string 9 w69 w.heap.size (fun k_ => some k_ ≠ (v141 : Value).ownBlock ∧ some k_ ≠ (.slice Ao16 t105.length co16 : Value).ownBlock ∧ k_ ≠ gb119 ∧ k_ ≠ gb127 ∧ k_ ≠ gb135 ∧ k_ ≠ gb143) (.slice Ao32 t128.length co32) t128) := ⟨h6_⟩
       have n7_ : Aside0 (Kd.V Kd.bool 4 w69 w.heap.size (fun k_ => some k_ ≠ (v141 : Value).ownBlock ∧ some k_ ≠ (.slice Ao16 t105.length co16 : Value).ownBlock ∧ k_ ≠ gb119 ∧ k_ ≠ gb127 ∧ k_ ≠ gb135 ∧ k_ ≠ gb143) (.slice Ao36 t131.length co36) t131) := ⟨h7_⟩
       have n8_ : Aside0 (w69.heap[gb119]? = some (.cells #[.slice Ao20 t112.length co20, .slice Ao22 t115.length co22] 49 (0, 0))) := ⟨h8_⟩
       have n9_ : Aside0 (w69.heap[gb127]? = some (.cells #[.slice Ao25 t120.length co25, .slice Ao28 t123.length co28] 49 (0, 0))) := ⟨h9_⟩
       have n10_ : Aside0 (w69.heap[gb135]? = some (.cells #[.slice Ao32 t128.length co32, .slice Ao36 t131.length co36] 49 (0, 0))) := ⟨h10_⟩
       have n11_ : Aside0 (w69.heap[gb143]? = some (.cells #[.slice none 0 0, .slice none 0 0] 49 (0, 0))) := ⟨h11_⟩
       have n12_ : Aside0 (w.heap.size ≤ gb143) := ⟨h12_⟩
       have n13_ : Aside0 (w.heap.size ≤ gb143) := ⟨h13_⟩
       have n14_ : Aside0 (gb119 ≠ gb143) := ⟨h14_⟩
       have n15_ : Aside0 (gb143 ≠ gb119) := ⟨h15_⟩
       have n16_ : Aside0 (gb127 ≠ gb143) := ⟨h16_⟩
       have n17_ : Aside0 (gb143 ≠ gb127) := ⟨h17_⟩
       have n18_ : Aside0 (gb135 ≠ gb143) := ⟨h18_⟩
       have n19_ : Aside0 (gb143 ≠ gb135) := ⟨h19_⟩
       have n20_ : Aside0 (Below w.heap.size w w69) := ⟨h20_⟩
       clear HO_10 HO_120000 HO_120001 HO_128000 HO_128001 HO_136000 HO_136001 BK119 BK127 BK135 HB h0_ h1_ h2_ h3_ h4_ h5_ h6_ h7_ h8_ h9_ h10_ h11_ h12_ h13_ h14_ h15_ h16_ h17_ h18_ h19_ h20_;have HO142 := n0_;have HO_10 := n1_;have HO_120000 := n2_;have HO_120001 := n3_;have HO_128000 := n4_;have HO_128001 := n5_;have HO_136000 := n6_;have HO_136001 := n7_;have BK119 := n8_;have BK127 := n9_;have BK135 := n10_;have BK143 := n11_;have GW143 := n12_;have GE143 := n13_;have NB119_143 := n14_;have NB143_119 := n15_;have NB127_143 := n16_;have NB143_127 := n17_;have NB135_143 := n18_;have NB143_135 := n19_;have HB := n20_;clear n0_ n1_ n2_ n3_ n4_ n5_ n6_ n7_ n8_ n9_ n10_ n11_ n12_ n13_ n14_ n15_ n16_ n17_ n18_ n19_ n20_;have hHeld := trivial
       refine norm_ (a' := ?_) ?_ ?_
       rotate_left
       ·simp only [putAll, Act.put, List.setIfInBounds_toArray, List.set_cons_zero, List.set_cons_succ]
        rfl
       refine one_ (i := 2) (N := some 99) #[true, true, true, true, true, false, true, false] rfl rfl (one_of HT_.out (by kernel_rfl)) (by decide) (fun K hK => ?_)
       refine R_make_step Kd.string _ 9 (by rfl) (N := 99) rfl 46 _ _ rfl ji59 rfl rfl Tryd.underlying46 (.string ⟨#[]⟩) 16 info9 rfl (by decide) (by omega) (⟨#[]⟩ : ByteArray) (ok := fun _ => True) (okp := fun _ => True) rfl (fun _ hk => hk) trivial (of_decide_eq_true (by assumption)) (Nat.le_trans (Nat.mul_le_mul_right _ (of_decide_eq_true (by assumption) : ji59.toNat ≤ 17592186044416)) (by omega)) (Below.refl _ _) (Nat.le_refl _) ?_
       intro v138 w70 ho71 hb hg_ hnew_;clear hg_ hnew_;(first | rw [← Ny137.out] at ho71 | (simp only [Int.reduceToNat] at ho71; rw [← Ny137.out] at ho71))
       replace HO_10 := Am (R_below (zR HO_10) hb);replace HO_120000 := Am (Kd.V_elder' (zV HO_120000) (R_base ho71) hb);replace HO_120001 := Am (Kd.V_elder' (zV HO_120001) (R_base ho71) hb);replace HO_128000 := Am (Kd.V_elder' (zV HO_128000) (R_base ho71) hb);replace HO_128001 := Am (Kd.V_elder' (zV HO_128001) (R_base ho71) hb);replace HO_136000 := Am (Kd.V_elder' (zV HO_136000) (R_base ho71) hb);replace HO_136001 := Am (Kd.V_elder' (zV HO_136001) (R_base ho71) hb);replace HO142 := Am (R_below (zR HO142) hb);have HO139 := Am (R_lower ho71 (below_size (zB HB)));replace BK119 := Am (zU BK119 hb);replace BK127 := Am (zU BK127 hb);replace BK135 := Am (zU BK135 hb);replace BK143 := Am (zU BK143 hb);replace HB := Am (below_step (zB HB) hb);clear hb ho71;obtain ⟨Ao72, co72, eo72⟩ := R_slice HO142.out
       (first | subst eo72 | (injection eo72 with f1_ f2_ f3_; have f4_ := f1_.symm; have f5_ := f3_.symm; clear f1_ f2_ f3_; subst f4_; subst f5_))
       obtain ⟨Ao73, co73, eo73⟩ := R_slice HO139.out
       (first | subst eo73 | (injection eo73 with f1_ f2_ f3_; have f4_ := f1_.symm; have f5_ := f3_.symm; clear f1_ f2_ f3_; subst f4_; subst f5_))
       refine hK.out _ _ trivial (fun hHeld => ?_)
       clear hK K;refine norm_ (a' := ?_) ?_ ?_
       rotate_left
       ·show Act.put _ (some 99) _ = _
        simp only [Act.put, zS, i64_w, i32_w]
        rfl
       refine pure_ (i := 5) (N := some 102) (v := ?_) (a' := ?_) #[true, true, true, true, true, true, true, false] rfl rfl (any_of HT_.out (by kernel_rfl)) (fun _ _ _ h => h) (Or.inl ⟨by rfl, ?_⟩) ?_ ?_
       rotate_left
       ·intro w'
        go_simp;with_reducible rfl
       rotate_left
       ·simp only [Act.put, zS, i64_w, i32_w]
        rfl
       exact norm_ (by first | (simp only [putAll, Act.put, List.setIfInBounds_toArray, List.set_cons_zero, List.set_cons_succ]; done) | (simp only [putAll, Act.put, List.setIfInBounds_toArray, List.set_cons_zero, List.set_cons_succ]; rfl)) (hJ2_4_6 (.slice Ao73 y137.length co73, .slice Ao72 y140.length co72, gb143) _ ⟨(zR HO139), (zR HO142), (zR HO_10), (zv HO_120000), (zv HO_120001), (zv HO_128000), (zv HO_128001), (zv HO_136000), (zv HO_136001), (zK BK119), (zK BK127), (zK BK135), (zK BK143), GW143.out, GE143.out, NB119_143.out, NB143_119.out, NB127_143.out, NB143_127.out, NB135_143.out, NB143_135.out, (zB HB)⟩)
     ·skip
      rintro ⟨v138, gb143⟩ w69 ⟨h0_, h1_, h2_, h3_, h4_, h5_, h6_, h7_, h8_, h9_, h10_, h11_, h12_, h13_, h14_, h15_, h16_, h17_, h18_, h19_, h20_⟩
      have n0_ : Aside0 (Kd.R Kd.string 9 w69 w.heap.size (fun _ => True) v138 y137) := ⟨h0_⟩
      have n1_ : Aside0 (Kd.R k26 26 w69 w.heap.size (fun _ => True) (.slice Ao16 t105.length co16) t105) := ⟨h1_⟩
      have n2_ : Aside0 (Kd.V Kd.string 9 w69 w.heap.size (fun k_ => some k_ ≠ (v138 : Value).ownBlock ∧ some k_ ≠ (.slice Ao16 t105.length co16 : Value).ownBlock ∧ k_ ≠ gb119 ∧ k_ ≠ gb127 ∧ k_ ≠ gb135 ∧ k_ ≠ gb143) (.slice Ao20 t112.length co20) t112) := ⟨h2_⟩
      have n3_ : Aside0 (Kd.V Kd.bool 4 w69 w.heap.size (fun k_ => some k_ ≠ (v138 : Value).ownBlock ∧ some k_ ≠ (.slice Ao16 t105.length co16 : Value).ownBlock ∧ k_ ≠ gb119 ∧ k_ ≠ gb127 ∧ k_ ≠ gb135 ∧ k_ ≠ gb143) (.slice Ao22 t115.length co22) t115) := ⟨h3_⟩
      have n4_ : Aside0 (Kd.V Kd.string 9 w69 w.heap.size (fun k_ => some k_ ≠ (v138 : Value).ownBlock ∧ some k_ ≠ (.slice Ao16 t105.length co16 : Value).ownBlock ∧ k_ ≠ gb119 ∧ k_ ≠ gb127 ∧ k_ ≠ gb135 ∧ k_ ≠ gb143) (.slice Ao25 t120.length co25) t120) := ⟨h4_⟩
      have n5_ : Aside0 (Kd.V Kd.bool 4 w69 w.heap.size (fun k_ => some k_ ≠ (v138 : Value).ownBlock ∧ some k_ ≠ (.slice Ao16 t105.length co16 : Value).ownBlock ∧ k_ ≠ gb119 ∧ k_ ≠ gb127 ∧ k_ ≠ gb135 ∧ k_ ≠ gb143) (.slice Ao28 t123.length co28) t123) := ⟨h5_⟩
      have n6_ : Aside0 (Kd.V Kd.string 9 w69 w.heap.size (fun k_ => some k_ ≠ (v138 : Value).ownBlock ∧ some k_ ≠ (.slice Ao16 t105.length co16 : Value).ownBlock ∧ k_ ≠ gb119 ∧ k_ ≠ gb127 ∧ k_ ≠ gb135 ∧ k_ ≠ gb143) (.slice Ao32 t128.length co32) t128) := ⟨h6_⟩
      have n7_ : Aside0 (Kd.V Kd.bool 4 w69 w.heap.size (fun k_ => some k_ ≠ (v138 : Value).ownBlock ∧ some k_ ≠ (.slice Ao16 t105.length co16 : Value).ownBlock ∧ k_ ≠ gb119 ∧ k_ ≠ gb127 ∧ k_ ≠ gb135 ∧ k_ ≠ gb143) (.slice Ao36 t131.length co36) t131) := ⟨h7_⟩
      have n8_ : Aside0 (w69.heap[gb119]? = some (.cells #[.slice Ao20 t112.length co20, .slice Ao22 t115.length co22] 49 (0, 0))) := ⟨h8_⟩
      have n9_ : Aside0 (w69.heap[gb127]? = some (.cells #[.slice Ao25 t120.length co25, .slice Ao28 t123.length co28] 49 (0, 0))) := ⟨h9_⟩
      have n10_ : Aside0 (w69.heap[gb135]? = some (.cells #[.slice Ao32 t128.length co32, .slice Ao36 t131.length co36] 49 (0, 0))) := ⟨h10_⟩
      have n11_ : Aside0 (w69.heap[gb143]? = some (.cells #[.slice none 0 0, .slice none 0 0] 49 (0, 0))) := ⟨h11_⟩
      have n12_ : Aside0 (w.heap.size ≤ gb143) := ⟨h12_⟩
      have n13_ : Aside0 (w.heap.size ≤ gb143) := ⟨h13_⟩
      have n14_ : Aside0 (gb119 ≠ gb143) := ⟨h14_⟩
      have n15_ : Aside0 (gb143 ≠ gb119) := ⟨h15_⟩
      have n16_ : Aside0 (gb127 ≠ gb143) := ⟨h16_⟩
      have n17_ : Aside0 (gb143 ≠ gb127) := ⟨h17_⟩
      have n18_ : Aside0 (gb135 ≠ gb143) := ⟨h18_⟩
      have n19_ : Aside0 (gb143 ≠ gb135) := ⟨h19_⟩
      have n20_ : Aside0 (Below w.heap.size w w69) := ⟨h20_⟩
      clear HO_10 HO_120000 HO_120001 HO_128000 HO_128001 HO_136000 HO_136001 BK119 BK127 BK135 HB h0_ h1_ h2_ h3_ h4_ h5_ h6_ h7_ h8_ h9_ h10_ h11_ h12_ h13_ h14_ h15_ h16_ h17_ h18_ h19_ h20_;have HO139 := n0_;have HO_10 := n1_;have HO_120000 := n2_;have HO_120001 := n3_;have HO_128000 := n4_;have HO_128001 := n5_;have HO_136000 := n6_;have HO_136001 := n7_;have BK119 := n8_;have BK127 := n9_;have BK135 := n10_;have BK143 := n11_;have GW143 := n12_;have GE143 := n13_;have NB119_143 := n14_;have NB143_119 := n15_;have NB127_143 := n16_;have NB143_127 := n17_;have NB135_143 := n18_;have NB143_135 := n19_;have HB := n20_;clear n0_ n1_ n2_ n3_ n4_ n5_ n6_ n7_ n8_ n9_ n10_ n11_ n12_ n13_ n14_ n15_ n16_ n17_ n18_ n19_ n20_;have hHeld := trivial
      refine norm_ (a' := ?_) ?_ ?_
      rotate_left
      ·simp only [putAll, Act.put, List.setIfInBounds_toArray, List.set_cons_zero, List.set_cons_succ]
       rfl
      refine one_ (i := 4) (N := some 101) #[true, true, true, true, true, false, true, false] rfl rfl (one_of HT_.out (by kernel_rfl)) (by decide) (fun K hK => ?_)
      refine R_make_step Kd.bool _ 4 (by rfl) (N := 101) rfl 47 _ _ rfl t136 rfl rfl Tryd.underlying47 (.bool false) 1 info4 rfl (by decide) (by omega) false (ok := fun _ => True) (okp := fun _ => True) rfl (fun _ hk => hk) trivial (of_decide_eq_true (by assumption)) (Nat.le_trans (Nat.mul_le_mul_right _ (of_decide_eq_true (by assumption) : t136.toNat ≤ 281474976710656)) (by omega)) (Below.refl _ _) (Nat.le_refl _) ?_
      intro v141 w70 ho71 hb hg_ hnew_;clear hg_ hnew_;(first | rw [← Ny140.out] at ho71 | (simp only [Int.reduceToNat] at ho71; rw [← Ny140.out] at ho71))
      replace HO_10 := Am (R_below (zR HO_10) hb);replace HO_120000 := Am (Kd.V_elder' (zV HO_120000) (R_base ho71) hb);replace HO_120001 := Am (Kd.V_elder' (zV HO_120001) (R_base ho71) hb);replace HO_128000 := Am (Kd.V_elder' (zV HO_128000) (R_base ho71) hb);replace HO_128001 := Am (Kd.V_elder' (zV HO_128001) (R_base ho71) hb);replace HO_136000 := Am (Kd.V_elder' (zV HO_136000) (R_base ho71) hb);replace HO_136001 := Am (Kd.V_elder' (zV HO_136001) (R_base ho71) hb);replace HO139 := Am (R_below (zR HO139) hb);have HO142 := Am (R_lower ho71 (below_size (zB HB)));replace BK119 := Am (zU BK119 hb);replace BK127 := Am (zU BK127 hb);replace BK135 := Am (zU BK135 hb);replace BK143 := Am (zU BK143 hb);replace HB := Am (below_step (zB HB) hb);clear hb ho71;obtain ⟨Ao72, co72, eo72⟩ := R_slice HO142.out
      (first | subst eo72 | (injection eo72 with f1_ f2_ f3_; have f4_ := f1_.symm; have f5_ := f3_.symm; clear f1_ f2_ f3_; subst f4_; subst f5_))
      obtain ⟨Ao73, co73, eo73⟩ := R_slice HO139.out
      (first | subst eo73 | (injection eo73 with f1_ f2_ f3_; have f4_ := f1_.symm; have f5_ := f3_.symm; clear f1_ f2_ f3_; subst f4_; subst f5_))
      refine hK.out _ _ trivial (fun hHeld => ?_)
      clear hK K;refine norm_ (a' := ?_) ?_ ?_
      rotate_left
      ·show Act.put _ (some 101) _ = _
       simp only [Act.put, zS, i64_w, i32_w]
       rfl
      refine pure_ (i := 5) (N := some 102) (v := ?_) (a' := ?_) #[true, true, true, true, true, true, true, false] rfl rfl (any_of HT_.out (by kernel_rfl)) (fun _ _ _ h => h) (Or.inl ⟨by rfl, ?_⟩) ?_ ?_
      rotate_left
      ·intro w'
       go_simp;with_reducible rfl
      rotate_left
      ·simp only [Act.put, zS, i64_w, i32_w]
       rfl
      exact norm_ (by first | (simp only [putAll, Act.put, List.setIfInBounds_toArray, List.set_cons_zero, List.set_cons_succ]; done) | (simp only [putAll, Act.put, List.setIfInBounds_toArray, List.set_cons_zero, List.set_cons_succ]; rfl)) (hJ2_4_6 (.slice Ao73 y137.length co73, .slice Ao72 y140.length co72, gb143) _ ⟨(zR HO139), (zR HO142), (zR HO_10), (zv HO_120000), (zv HO_120001), (zv HO_128000), (zv HO_128001), (zv HO_136000), (zv HO_136001), (zK BK119), (zK BK127), (zK BK135), (zK BK143), GW143.out, GE143.out, NB119_143.out, NB143_119.out, NB127_143.out, NB143_127.out, NB135_143.out, NB143_135.out, (zB HB)⟩)
    ·skip
     rintro ⟨v138, v141⟩ w72 ⟨h0_, h1_, h2_, h3_, h4_, h5_, h6_, h7_, h8_, h9_, h10_, h11_, h12_⟩
     have n0_ : Aside0 (Kd.R Kd.string 9 w72 w.heap.size (fun _ => True) v138 y137) := ⟨h0_⟩
     have n1_ : Aside0 (Kd.R Kd.bool 4 w72 w.heap.size (fun _ => True) v141 y140) := ⟨h1_⟩
     have n2_ : Aside0 (Kd.R k26 26 w72 w.heap.size (fun _ => True) (.slice Ao16 t105.length co16) t105) := ⟨h2_⟩
     have n3_ : Aside0 (Kd.V Kd.string 9 w72 w.heap.size (fun k_ => some k_ ≠ (v138 : Value).ownBlock ∧ some k_ ≠ (v141 : Value).ownBlock ∧ some k_ ≠ (.slice Ao16 t105.length co16 : Value).ownBlock ∧ k_ ≠ gb119 ∧ k_ ≠ gb127 ∧ k_ ≠ gb135) (.slice Ao20 t112.length co20) t112) := ⟨h3_⟩
     have n4_ : Aside0 (Kd.V Kd.bool 4 w72 w.heap.size (fun k_ => some k_ ≠ (v138 : Value).ownBlock ∧ some k_ ≠ (v141 : Value).ownBlock ∧ some k_ ≠ (.slice Ao16 t105.length co16 : Value).ownBlock ∧ k_ ≠ gb119 ∧ k_ ≠ gb127 ∧ k_ ≠ gb135) (.slice Ao22 t115.length co22) t115) := ⟨h4_⟩
     have n5_ : Aside0 (Kd.V Kd.string 9 w72 w.heap.size (fun k_ => some k_ ≠ (v138 : Value).ownBlock ∧ some k_ ≠ (v141 : Value).ownBlock ∧ some k_ ≠ (.slice Ao16 t105.length co16 : Value).ownBlock ∧ k_ ≠ gb119 ∧ k_ ≠ gb127 ∧ k_ ≠ gb135) (.slice Ao25 t120.length co25) t120) := ⟨h5_⟩
     have n6_ : Aside0 (Kd.V Kd.bool 4 w72 w.heap.size (fun k_ => some k_ ≠ (v138 : Value).ownBlock ∧ some k_ ≠ (v141 : Value).ownBlock ∧ some k_ ≠ (.slice Ao16 t105.length co16 : Value).ownBlock ∧ k_ ≠ gb119 ∧ k_ ≠ gb127 ∧ k_ ≠ gb135) (.slice Ao28 t123.length co28) t123) := ⟨h6_⟩
     have n7_ : Aside0 (Kd.V Kd.string 9 w72 w.heap.size (fun k_ => some k_ ≠ (v138 : Value).ownBlock ∧ some k_ ≠ (v141 : Value).ownBlock ∧ some k_ ≠ (.slice Ao16 t105.length co16 : Value).ownBlock ∧ k_ ≠ gb119 ∧ k_ ≠ gb127 ∧ k_ ≠ gb135) (.slice Ao32 t128.length co32) t128) := ⟨h7_⟩
     have n8_ : Aside0 (Kd.V Kd.bool 4 w72 w.heap.size (fun k_ => some k_ ≠ (v138 : Value).ownBlock ∧ some k_ ≠ (v141 : Value).ownBlock ∧ some k_ ≠ (.slice Ao16 t105.length co16 : Value).ownBlock ∧ k_ ≠ gb119 ∧ k_ ≠ gb127 ∧ k_ ≠ gb135) (.slice Ao36 t131.length co36) t131) := ⟨h8_⟩
     have n9_ : Aside0 (w72.heap[gb119]? = some (.cells #[.slice Ao20 t112.length co20, .slice Ao22 t115.length co22] 49 (0, 0))) := ⟨h9_⟩
     have n10_ : Aside0 (w72.heap[gb127]? = some (.cells #[.slice Ao25 t120.length co25, .slice Ao28 t123.length co28] 49 (0, 0))) := ⟨h10_⟩
     have n11_ : Aside0 (w72.heap[gb135]? = some (.cells #[.slice Ao32 t128.length co32, .slice Ao36 t131.length co36] 49 (0, 0))) := ⟨h11_⟩
     have n12_ : Aside0 (Below w.heap.size w w72) := ⟨h12_⟩
     clear HO_10 HO_120000 HO_120001 HO_128000 HO_128001 HO_136000 HO_136001 BK119 BK127 BK135 HB h0_ h1_ h2_ h3_ h4_ h5_ h6_ h7_ h8_ h9_ h10_ h11_ h12_;have HO139 := n0_;have HO142 := n1_;have HO_10 := n2_;have HO_120000 := n3_;have HO_120001 := n4_;have HO_128000 := n5_;have HO_128001 := n6_;have HO_136000 := n7_;have HO_136001 := n8_;have BK119 := n9_;have BK127 := n10_;have BK135 := n11_;have HB := n12_;clear n0_ n1_ n2_ n3_ n4_ n5_ n6_ n7_ n8_ n9_ n10_ n11_ n12_;have hHeld := trivial
     obtain ⟨Ao73, co73, eo73⟩ := R_slice HO142.out
     (first | subst eo73 | (injection eo73 with f1_ f2_ f3_; have f4_ := f1_.symm; have f5_ := f3_.symm; clear f1_ f2_ f3_; subst f4_; subst f5_))
     obtain ⟨Ao74, co74, eo74⟩ := R_slice HO139.out
     (first | subst eo74 | (injection eo74 with f1_ f2_ f3_; have f4_ := f1_.symm; have f5_ := f3_.symm; clear f1_ f2_ f3_; subst f4_; subst f5_))
     refine norm_ (a' := ?_) ?_ ?_
     rotate_left
     ·simp only [putAll, Act.put, List.setIfInBounds_toArray, List.set_cons_zero, List.set_cons_succ]
      rfl
     refine one_ (i := 6) (N := some 20) #[true, true, true, true, true, true, true, false] rfl rfl (one_of HT_.out (by kernel_rfl)) (by decide) (fun K hK => ?_)
     refine box_step ?hg (N := 20) ?hd (cs := #[.slice none 0 0, .slice none 0 0]) (t := 49) ?hr ?_; (case hd => rfl); (case hg => rfl); (case hr => first | (go_simp; done) | (go_simp; rfl))
     intro gb143 hg w75 hbox hb;replace HO_10 := Am (R_below (zR HO_10) hb);replace HO_120000 := Am (Kd.V_below (Kd.V_elderB (zV HO_120000) gb143 (Nat.le_of_eq hg.symm)) hb);replace HO_120001 := Am (Kd.V_below (Kd.V_elderB (zV HO_120001) gb143 (Nat.le_of_eq hg.symm)) hb);replace HO_128000 := Am (Kd.V_below (Kd.V_elderB (zV HO_128000) gb143 (Nat.le_of_eq hg.symm)) hb);replace HO_128001 := Am (Kd.V_below (Kd.V_elderB (zV HO_128001) gb143 (Nat.le_of_eq hg.symm)) hb);replace HO_136000 := Am (Kd.V_below (Kd.V_elderB (zV HO_136000) gb143 (Nat.le_of_eq hg.symm)) hb);replace HO_136001 := Am (Kd.V_below (Kd.V_elderB (zV HO_136001) gb143 (Nat.le_of_eq hg.symm)) hb);replace HO139 := Am (R_below (zR HO139) hb);replace HO142 := Am (R_below (zR HO142) hb);have BK143 := Am (hbox);have GW143 := Am (zO (w := w) HB hg);have GE143 := Am (zO (w := w) HB hg);replace HB := Am (below_step (zB HB) hb);have NB119_143 := Am ((by rw [hg]; exact Nat.ne_of_lt (zL BK119) : gb119 ≠ gb143));have NB143_119 := Am ((by rw [hg]; exact Nat.ne_of_gt (zL BK119) : gb143 ≠ gb119));replace BK119 := Am (zU BK119 hb);have NB127_143 := Am ((by rw [hg]; exact Nat.ne_of_lt (zL BK127) : gb127 ≠ gb143));have NB143_127 := Am ((by rw [hg]; exact Nat.ne_of_gt (zL BK127) : gb143 ≠ gb127));replace BK127 := Am (zU BK127 hb);have NB135_143 := Am ((by rw [hg]; exact Nat.ne_of_lt (zL BK135) : gb135 ≠ gb143));have NB143_135 := Am ((by rw [hg]; exact Nat.ne_of_gt (zL BK135) : gb143 ≠ gb135));replace BK135 := Am (zU BK135 hb);clear hb hbox hg;refine hK.out _ _ trivial (fun hHeld => ?_)
     clear hK K;refine norm_ (a' := ?_) ?_ ?_
     rotate_left
     ·show Act.put _ (some 20) _ = _
      simp only [Act.put, zS, i64_w, i32_w]
      rfl
     exact norm_ (by first | (simp only [putAll, Act.put, List.setIfInBounds_toArray, List.set_cons_zero, List.set_cons_succ]; done) | (simp only [putAll, Act.put, List.setIfInBounds_toArray, List.set_cons_zero, List.set_cons_succ]; rfl)) (hJ2_4_6 (.slice Ao74 y137.length co74, .slice Ao73 y140.length co73, gb143) _ ⟨(zR HO139), (zR HO142), (zR HO_10), (zv HO_120000), (zv HO_120001), (zv HO_128000), (zv HO_128001), (zv HO_136000), (zv HO_136001), (zK BK119), (zK BK127), (zK BK135), (zK BK143), GW143.out, GE143.out, NB119_143.out, NB143_119.out, NB127_143.out, NB143_127.out, NB135_143.out, NB143_135.out, (zB HB)⟩)
   rintro ⟨v138, v141, gb143⟩ w73 ⟨h0_, h1_, h2_, h3_, h4_, h5_, h6_, h7_, h8_, h9_, h10_, h11_, h12_, h13_, h14_, h15_, h16_, h17_, h18_, h19_, h20_, h21_⟩
   have n0_ : Aside0 (Kd.R Kd.string 9 w73 w.heap.size (fun _ => True) v138 y137) := ⟨h0_⟩
   have n1_ : Aside0 (Kd.R Kd.bool 4 w73 w.heap.size (fun _ => True) v141 y140) := ⟨h1_⟩
   have n2_ : Aside0 (Kd.R k26 26 w73 w.heap.size (fun _ => True) (.slice Ao16 t105.length co16) t105) := ⟨h2_⟩
   have n3_ : Aside0 (Kd.V Kd.string 9 w73 w.heap.size (fun k_ => some k_ ≠ (v138 : Value).ownBlock ∧ some k_ ≠ (v141 : Value).ownBlock ∧ some k_ ≠ (.slice Ao16 t105.length co16 : Value).ownBlock ∧ k_ ≠ gb119 ∧ k_ ≠ gb127 ∧ k_ ≠ gb135 ∧ k_ ≠ gb143) (.slice Ao20 t112.length co20) t112) := ⟨h3_⟩
   have n4_ : Aside0 (Kd.V Kd.bool 4 w73 w.heap.size (fun k_ => some k_ ≠ (v138 : Value).ownBlock ∧ some k_ ≠ (v141 : Value).ownBlock ∧ some k_ ≠ (.slice Ao16 t105.length co16 : Value).ownBlock ∧ k_ ≠ gb119 ∧ k_ ≠ gb127 ∧ k_ ≠ gb135 ∧ k_ ≠ gb143) (.slice Ao22 t115.length co22) t115) := ⟨h4_⟩
   have n5_ : Aside0 (Kd.V Kd.string 9 w73 w.heap.size (fun k_ => some k_ ≠ (v138 : Value).ownBlock ∧ some k_ ≠ (v141 : Value).ownBlock ∧ some k_ ≠ (.slice Ao16 t105.length co16 : Value).ownBlock ∧ k_ ≠ gb119 ∧ k_ ≠ gb127 ∧ k_ ≠ gb135 ∧ k_ ≠ gb143) (.slice Ao25 t120.length co25) t120) := ⟨h5_⟩
   have n6_ : Aside0 (Kd.V Kd.bool 4 w73 w.heap.size (fun k_ => some k_ ≠ (v138 : Value).ownBlock ∧ some k_ ≠ (v141 : Value).ownBlock ∧ some k_ ≠ (.slice Ao16 t105.length co16 : Value).ownBlock ∧ k_ ≠ gb119 ∧ k_ ≠ gb127 ∧ k_ ≠ gb135 ∧ k_ ≠ gb143) (.slice Ao28 t123.length co28) t123) := ⟨h6_⟩
   have n7_ : Aside0 (Kd.V Kd.string 9 w73 w.heap.size (fun k_ => some k_ ≠ (v138 : Value).ownBlock ∧ some k_ ≠ (v141 : Value).ownBlock ∧ some k_ ≠ (.slice Ao16 t105.length co16 : Value).ownBlock ∧ k_ ≠ gb119 ∧ k_ ≠ gb127 ∧ k_ ≠ gb135 ∧ k_ ≠ gb143) (.slice Ao32 t128.length co32) t128) := ⟨h7_⟩
   have n8_ : Aside0 (Kd.V Kd.bool 4 w73 w.heap.size (fun k_ => some k_ ≠ (v138 : Value).ownBlock ∧ some k_ ≠ (v141 : Value).ownBlock ∧ some k_ ≠ (.slice Ao16 t105.length co16 : Value).ownBlock ∧ k_ ≠ gb119 ∧ k_ ≠ gb127 ∧ k_ ≠ gb135 ∧ k_ ≠ gb143) (.slice Ao36 t131.length co36) t131) := ⟨h8_⟩
   have n9_ : Aside0 (w73.heap[gb119]? = some (.cells #[.slice Ao20 t112.length co20, .slice Ao22 t115.length co22] 49 (0, 0))) := ⟨h9_⟩
   have n10_ : Aside0 (w73.heap[gb127]? = some (.cells #[.slice Ao25 t120.length co25, .slice Ao28 t123.length co28] 49 (0, 0))) := ⟨h10_⟩
   have n11_ : Aside0 (w73.heap[gb135]? = some (.cells #[.slice Ao32 t128.length co32, .slice Ao36 t131.length co36] 49 (0, 0))) := ⟨h11_⟩
   have n12_ : Aside0 (w73.heap[gb143]? = some (.cells #[.slice none 0 0, .slice none 0 0] 49 (0, 0))) := ⟨h12_⟩
   have n13_ : Aside0 (w.heap.size ≤ gb143) := ⟨h13_⟩
   have n14_ : Aside0 (w.heap.size ≤ gb143) := ⟨h14_⟩
   have n15_ : Aside0 (gb119 ≠ gb143) := ⟨h15_⟩
   have n16_ : Aside0 (gb143 ≠ gb119) := ⟨h16_⟩
   have n17_ : Aside0 (gb127 ≠ gb143) := ⟨h17_⟩
   have n18_ : Aside0 (gb143 ≠ gb127) := ⟨h18_⟩
   have n19_ : Aside0 (gb135 ≠ gb143) := ⟨h19_⟩
   have n20_ : Aside0 (gb143 ≠ gb135) := ⟨h20_⟩
   have n21_ : Aside0 (Below w.heap.size w w73) := ⟨h21_⟩
   clear HO_10 HO_120000 HO_120001 HO_128000 HO_128001 HO_136000 HO_136001 BK119 BK127 BK135 HB h0_ h1_ h2_ h3_ h4_ h5_ h6_ h7_ h8_ h9_ h10_ h11_ h12_ h13_ h14_ h15_ h16_ h17_ h18_ h19_ h20_ h21_;have HO139 := n0_;have HO142 := n1_;have HO_10 := n2_;have HO_120000 := n3_;have HO_120001 := n4_;have HO_128000 := n5_;have HO_128001 := n6_;have HO_136000 := n7_;have HO_136001 := n8_;have BK119 := n9_;have BK127 := n10_;have BK135 := n11_;have BK143 := n12_;have GW143 := n13_;have GE143 := n14_;have NB119_143 := n15_;have NB143_119 := n16_;have NB127_143 := n17_;have NB143_127 := n18_;have NB135_143 := n19_;have NB143_135 := n20_;have HB := n21_;clear n0_ n1_ n2_ n3_ n4_ n5_ n6_ n7_ n8_ n9_ n10_ n11_ n12_ n13_ n14_ n15_ n16_ n17_ n18_ n19_ n20_ n21_;have hHeld := trivial
   obtain ⟨Ao74, co74, eo74⟩ := R_slice HO142.out
   (first | subst eo74 | (injection eo74 with f1_ f2_ f3_; have f4_ := f1_.symm; have f5_ := f3_.symm; clear f1_ f2_ f3_; subst f4_; subst f5_))
   obtain ⟨Ao75, co75, eo75⟩ := R_slice HO139.out
   (first | subst eo75 | (injection eo75 with f1_ f2_ f3_; have f4_ := f1_.symm; have f5_ := f3_.symm; clear f1_ f2_ f3_; subst f4_; subst f5_))
   refine norm_ (a' := ?_) ?_ ?_
   rotate_left
   ·simp only [putAll, Act.put, List.setIfInBounds_toArray, List.set_cons_zero, List.set_cons_succ]
    rfl
   refine one_ (i := 7) (N := none) #[true, true, true, true, true, true, true, true] rfl rfl (one_of HT_.out (by kernel_rfl)) (by decide) (fun K hK => ?_)
   have hs76 : w73.cell? ⟨gb143, 0, none⟩ = some (.slice none 0 0) := (blk_cell BK143.out 0).trans rfl
   have hfs76 := blk_frozen BK143.out 0;have hns76_0 := NB119_143.out;have hns76_1 := NB127_143.out;have hns76_2 := NB135_143.out;have hms76_0 := NB143_119.out;have hms76_1 := NB143_127.out;have hms76_2 := NB143_135.out;have hs77 : w73.cell? ⟨gb143, 1, none⟩ = some (.slice none 0 0) := (blk_cell BK143.out 1).trans rfl
   have hfs77 := blk_frozen BK143.out 1;have hns77_0 := NB119_143.out;have hns77_1 := NB127_143.out;have hns77_2 := NB135_143.out;have hms77_0 := NB143_119.out;have hms77_1 := NB143_127.out;have hms77_2 := NB143_135.out;refine skip_ (w1 := ?_) (by rfl) rfl ?_ ?_
   rotate_left
   ·go_simp;rfl
   refine hK.out _ _ trivial (fun hHeld => ?_)
   clear hK K;refine done_ (done_of HT_.out (by kernel_rfl)) ?_
   try go_wp2
   go_loopg [21] kj10 (fun kq v21 w' => ∃ (x21_2 : Int) (x120000_2 : List ByteArray) (x120001_2 : List Bool) (x128000_2 : List ByteArray) (x128001_2 : List Bool) (x136000_2 : List ByteArray) (x136001_2 : List Bool) (x144000_2 : List ByteArray) (x144001_2 : List Bool) (u120000 : Value) (u120001 : Value) (u128000 : Value) (u128001 : Value) (u136000 : Value) (u136001 : Value) (u144000 : Value) (u144001 : Value), v21 = .int .i64 x21_2 ∧ Aside0 (epitomelaw11_OverGaps.l0 kq (wrap64 (Int.tmod a2 64)) t105 t136 x21_2 x120000_2 x120001_2 x128000_2 x128001_2 x136000_2 x136001_2 x144000_2 x144001_2 = some r) ∧ Aside0 (kq ≤ kj10) ∧ Aside0 (Kd.R k26 26 w' w.heap.size (fun _ => True) (.slice Ao16 t105.length co16) t105) ∧ Aside0 (Kd.V Kd.string 9 w' w.heap.size (fun k_ => some k_ ≠ ((.slice Ao16 t105.length co16) : Value).ownBlock ∧ some k_ ≠ (u144000 : Value).ownBlock ∧ some k_ ≠ (u144001 : Value).ownBlock ∧ k_ ≠ gb119 ∧ k_ ≠ gb127 ∧ k_ ≠ gb135 ∧ k_ ≠ gb143) u120000 x120000_2) ∧ Aside0 (Kd.V Kd.bool 4 w' w.heap.size (fun k_ => some k_ ≠ ((.slice Ao16 t105.length co16) : Value).ownBlock ∧ some k_ ≠ (u144000 : Value).ownBlock ∧ some k_ ≠ (u144001 : Value).ownBlock ∧ k_ ≠ gb119 ∧ k_ ≠ gb127 ∧ k_ ≠ gb135 ∧ k_ ≠ gb143) u120001 x120001_2) ∧ Aside0 (Kd.V Kd.string 9 w' w.heap.size (fun k_ => some k_ ≠ ((.slice Ao16 t105.length co16) : Value).ownBlock ∧ some k_ ≠ (u144000 : Value).ownBlock ∧ some k_ ≠ (u144001 : Value).ownBlock ∧ k_ ≠ gb119 ∧ k_ ≠ gb127 ∧ k_ ≠ gb135 ∧ k_ ≠ gb143) u128000 x128000_2) ∧ Aside0 (Kd.V Kd.bool 4 w' w.heap.size (fun k_ => some k_ ≠ ((.slice Ao16 t105.length co16) : Value).ownBlock ∧ some k_ ≠ (u144000 : Value).ownBlock ∧ some k_ ≠ (u144001 : Value).ownBlock ∧ k_ ≠ gb119 ∧ k_ ≠ gb127 ∧ k_ ≠ gb135 ∧ k_ ≠ gb143) u128001 x128001_2) ∧ Aside0 (Kd.V Kd.string 9 w' w.heap.size (fun k_ => some k_ ≠ ((.slice Ao16 t105.length co16) : Value).ownBlock ∧ some k_ ≠ (u144000 : Value).ownBlock ∧ some k_ ≠ (u144001 : Value).ownBlock ∧ k_ ≠ gb119 ∧ k_ ≠ gb127 ∧ k_ ≠ gb135 ∧ k_ ≠ gb143) u136000 x136000_2) ∧ Aside0 (Kd.V Kd.bool 4 w' w.heap.size (fun k_ => some k_ ≠ ((.slice Ao16 t105.length co16) : Value).ownBlock ∧ some k_ ≠ (u144000 : Value).ownBlock ∧ some k_ ≠ (u144001 : Value).ownBlock ∧ k_ ≠ gb119 ∧ k_ ≠ gb127 ∧ k_ ≠ gb135 ∧ k_ ≠ gb143) u136001 x136001_2) ∧ Aside0 (Kd.R Kd.string 9 w' w.heap.size (fun _ => True) u144000 x144000_2) ∧ Aside0 (Kd.R Kd.bool 4 w' w.heap.size (fun _ => True) u144001 x144001_2) ∧ Aside0 (w'.heap[gb119]? = some (.cells #[u120000, u120001] 49 (0, 0))) ∧ Aside0 (w'.heap[gb127]? = some (.cells #[u128000, u128001] 49 (0, 0))) ∧ Aside0 (w'.heap[gb135]? = some (.cells #[u136000, u136001] 49 (0, 0))) ∧ Aside0 (w'.heap[gb143]? = some (.cells #[u144000, u144001] 49 (0, 0))) ∧ Aside0 (Below w.heap.size w w'))
   case atStart => exact ⟨(0), (t112), (t115), (t120), (t123), (t128), (t131), (y137), (y140), (.slice Ao20 t112.length co20), (.slice Ao22 t115.length co22), (.slice Ao25 t120.length co25), (.slice Ao28 t123.length co28), (.slice Ao32 t128.length co32), (.slice Ao36 t131.length co36), (.slice Ao75 y137.length co75), (.slice Ao74 y140.length co74), zG, H', ⟨Nat.le_refl _⟩, ⟨by (with_reducible repeat (first | apply zA.a | apply zA.n | apply zA.d)); exact R_mono (R_far (p := ⟨gb143, 1, none⟩) (R_far (p := ⟨gb143, 0, none⟩) (R_types HO_10.out BK143.out (by decide)) (fun _ hk => hk.2) (.slice Ao75 y137.length co75)) (fun _ hk => hk.2) (.slice Ao74 y140.length co74)) (fun _ hk => trivial)⟩, ⟨by (with_reducible repeat (first | apply Kd.V_alloc | apply Kd.V_drewN | apply Kd.V_drew)); exact Kd.V_mono (Kd.V_far (p := ⟨gb143, 1, none⟩) (Kd.V_far (p := ⟨gb143, 0, none⟩) (Kd.V_mono HO_120000.out (zq gb143)) (fun _ hk => hk.2) (.slice Ao75 y137.length co75)) (fun _ hk => hk.2) (.slice Ao74 y140.length co74)) zp⟩, ⟨by (with_reducible repeat (first | apply Kd.V_alloc | apply Kd.V_drewN | apply Kd.V_drew)); exact Kd.V_mono (Kd.V_far (p := ⟨gb143, 1, none⟩) (Kd.V_far (p := ⟨gb143, 0, none⟩) (Kd.V_mono HO_120001.out (zq gb143)) (fun _ hk => hk.2) (.slice Ao75 y137.length co75)) (fun _ hk => hk.2) (.slice Ao74 y140.length co74)) zp⟩, ⟨by (with_reducible repeat (first | apply Kd.V_alloc | apply Kd.V_drewN | apply Kd.V_drew)); exact Kd.V_mono (Kd.V_far (p := ⟨gb143, 1, none⟩) (Kd.V_far (p := ⟨gb143, 0, none⟩) (Kd.V_mono HO_128000.out (zq gb143)) (fun _ hk => hk.2) (.slice Ao75 y137.length co75)) (fun _ hk => hk.2) (.slice Ao74 y140.length co74)) zp⟩, ⟨by (with_reducible repeat (first | apply Kd.V_alloc | apply Kd.V_drewN | apply Kd.V_drew)); exact Kd.V_mono (Kd.V_far (p := ⟨gb143, 1, none⟩) (Kd.V_far (p := ⟨gb143, 0, none⟩) (Kd.V_mono HO_128001.out (zq gb143)) (fun _ hk => hk.2) (.slice Ao75 y137.length co75)) (fun _ hk => hk.2) (.slice Ao74 y140.length co74)) zp⟩, ⟨by (with_reducible repeat (first | apply Kd.V_alloc | apply Kd.V_drewN | apply Kd.V_drew)); exact Kd.V_mono (Kd.V_far (p := ⟨gb143, 1, none⟩) (Kd.V_far (p := ⟨gb143, 0, none⟩) (Kd.V_mono HO_136000.out (zq gb143)) (fun _ hk => hk.2) (.slice Ao75 y137.length co75)) (fun _ hk => hk.2) (.slice Ao74 y140.length co74)) zp⟩, ⟨by (with_reducible repeat (first | apply Kd.V_alloc | apply Kd.V_drewN | apply Kd.V_drew)); exact Kd.V_mono (Kd.V_far (p := ⟨gb143, 1, none⟩) (Kd.V_far (p := ⟨gb143, 0, none⟩) (Kd.V_mono HO_136001.out (zq gb143)) (fun _ hk => hk.2) (.slice Ao75 y137.length co75)) (fun _ hk => hk.2) (.slice Ao74 y140.length co74)) zp⟩, ⟨by (with_reducible repeat (first | apply zA.a | apply zA.n | apply zA.d)); exact R_mono (R_far (p := ⟨gb143, 1, none⟩) (R_far (p := ⟨gb143, 0, none⟩) (R_types HO139.out BK143.out (by decide)) (fun _ hk => hk.2) (.slice Ao75 y137.length co75)) (fun _ hk => hk.2) (.slice Ao74 y140.length co74)) (fun _ hk => trivial)⟩, ⟨by (with_reducible repeat (first | apply zA.a | apply zA.n | apply zA.d)); exact R_mono (R_far (p := ⟨gb143, 1, none⟩) (R_far (p := ⟨gb143, 0, none⟩) (R_types HO142.out BK143.out (by decide)) (fun _ hk => hk.2) (.slice Ao75 y137.length co75)) (fun _ hk => hk.2) (.slice Ao74 y140.length co74)) (fun _ hk => trivial)⟩, ⟨(zK BK119)⟩, ⟨(zK BK127)⟩, ⟨(zK BK135)⟩, ⟨(zP BK143)⟩, ⟨(zB HB)⟩⟩
   case round =>
    clear H';(try clear p2);(try clear p6);(try clear p64);obtain ⟨x21_2, x120000_2, x120001_2, x128000_2, x128001_2, x136000_2, x136001_2, x144000_2, x144001_2, u120000, u120001, u128000, u128001, u136000, u136001, u144000, u144001, rfl, HA, HK2, HO_10, HO_120000, HO_120001, HO_128000, HO_128001, HO_136000, HO_136001, HO_144000, HO_144001, BK119, BK127, BK135, BK143, HB⟩ := hrel
    cases gk with
    | zero => exact absurd HA.out (by simp [epitomelaw11_OverGaps.l0])
    | succ k2 =>
     have H := HA.out;clear HA;simp only [epitomelaw11_OverGaps.l0] at H
     by_cases c78 : x21_2 ≤ (wrap64 (Int.tmod a2 64))
     rotate_left
     ·rw [if_neg c78] at H;have c78b0 : decide (x21_2 ≤ (wrap64 (Int.tmod a2 64))) = false := decide_eq_false c78
      clear c78;replace H := Option.bind_eq_some_iff.mp H;obtain ⟨t144, A1130, H⟩ := H;replace H : (some t144) = some r := H
      have A113 := Am A1130;clear A1130;obtain rfl := Option.some.inj H;have hnb114 := NB135_119.out;have hnc114 := NB119_135.out;have hnb115 := NB135_127.out;have hnc115 := NB127_135.out;have hnb116 := NB135_143.out;have hnc116 := NB143_135.out;obtain ⟨hcz117_0, hcz117_1, hfz117_0, hfz117_1⟩ := zc2 BK135;have hnb118 := NB143_119.out;have hnc118 := NB119_143.out;have hnb119 := NB143_127.out;have hnc119 := NB127_143.out;obtain ⟨hcz120_0, hcz120_1, hfz120_0, hfz120_1⟩ := zc2 BK143;obtain ⟨Ao121, co121, eo121⟩ := Kd.V_slice HO_136000.out
      subst eo121
      obtain ⟨Ao122, co122, eo122⟩ := Kd.V_slice HO_136001.out
      subst eo122
      obtain ⟨Ao123, co123, eo123⟩ := R_slice HO_144000.out
      subst eo123
      obtain ⟨Ao124, co124, eo124⟩ := R_slice HO_144001.out
      subst eo124
      go_wp2_with (first | ((with_reducible refine gate_callee (f := 34) rfl ?_); refine goesL_ (some 165) rfl rfl Tryd.func34 (by kernel_rfl) rfl #[.agg #[.slice Ao121 x136000_2.length co121, .slice Ao122 x136001_2.length co122], .agg #[.slice Ao123 x144000_2.length co123, .slice Ao124 x144001_2.length co124]] rfl zE ?_; (with_reducible refine (epitomeref06_Same.calls k2 _ _ x136000_2 _ _ x136001_2 _ _ x144000_2 _ _ x144001_2 t144 _ ?side1 ?side2 ?side3 ?side4 ?side5 ?side6 ?side7 ?side8 A113.out).mono ?_); (case side1 => repeat (first | exact (Kd.V_reads' HO_136000.out).2.2 | (with_reducible refine C_alloc ?_ _) | (with_reducible refine C_drewN ?_ _) | (with_reducible refine C_drew ?_))); (case side2 => exact (Kd.V_reads' HO_136000.out).2.1); (case side3 => repeat (first | exact (Kd.V_reads' HO_136001.out).2.2 | (with_reducible refine C_alloc ?_ _) | (with_reducible refine C_drewN ?_ _) | (with_reducible refine C_drew ?_))); (case side4 => exact (Kd.V_reads' HO_136001.out).2.1); (case side5 => exact zI (R_reads' HO_144000.out).2.2); (case side6 => exact (R_reads' HO_144000.out).2.1); (case side7 => exact zI (R_reads' HO_144001.out).2.2); (case side8 => exact (R_reads' HO_144001.out).2.1); rintro e w125 ⟨rfl, hb⟩; refine ⟨_, rfl, ?_⟩; replace HO_10 := Am (R_below (zR HO_10) hb);replace HO_120000 := Am (Kd.V_below (zV HO_120000) hb);replace HO_120001 := Am (Kd.V_below (zV HO_120001) hb);replace HO_128000 := Am (Kd.V_below (zV HO_128000) hb);replace HO_128001 := Am (Kd.V_below (zV HO_128001) hb);replace HO_136000 := Am (Kd.V_below (zV HO_136000) hb);replace HO_136001 := Am (Kd.V_below (zV HO_136001) hb);replace HO_144000 := Am (R_below (zR HO_144000) hb);replace HO_144001 := Am (R_below (zR HO_144001) hb);replace BK119 := Am (zU BK119 hb);replace BK127 := Am (zU BK127 hb);replace BK135 := Am (zU BK135 hb);replace BK143 := Am (zU BK143 hb);replace HB := Am (below_step (zB HB) hb); (try clear hb)))
      go_ret
      exact ⟨by first | rfl | (simp [errW_none, errW_some] <;> rfl) | (simp only [← hji59]; first | rfl | (simp [errW_none, errW_some] <;> rfl)) | (simp [*, errW_none, errW_some] <;> rfl), (zB HB)⟩
     rw [if_pos c78] at H;have c78b0 : decide (x21_2 ≤ (wrap64 (Int.tmod a2 64))) = true := decide_eq_true c78
     clear c78;replace H := Option.bind_eq_some_iff.mp H;obtain ⟨⟨t145, t146⟩, A790, H⟩ := H;have A79 := Am A790;clear A790;have HC80 := Am H;clear H;go_upto_region 17 with (first | ((with_reducible refine gate_callee (f := 33) rfl ?_); refine goesL_ (some 111) rfl rfl Tryd.func33 (by kernel_rfl) rfl #[.slice Ao16 t105.length co16, .int .i64 x21_2] rfl zE ?_; (with_reducible refine (place_Where.calls k2 _ _ t105 x21_2 t145 t146 _ ?side1 ?side2 ?side3 A79.out).mono ?_); (case side1 => exact zg HG HB); (case side2 => exact zI (R_reads' HO_10.out).2.2); (case side3 => exact (R_reads' HO_10.out).2.1); rintro e w81 ⟨rfl, hb⟩; refine ⟨_, rfl, ?_⟩; replace HO_10 := Am (R_below (zR HO_10) hb);replace HO_120000 := Am (Kd.V_below (zV HO_120000) hb);replace HO_120001 := Am (Kd.V_below (zV HO_120001) hb);replace HO_128000 := Am (Kd.V_below (zV HO_128000) hb);replace HO_128001 := Am (Kd.V_below (zV HO_128001) hb);replace HO_136000 := Am (Kd.V_below (zV HO_136000) hb);replace HO_136001 := Am (Kd.V_below (zV HO_136001) hb);replace HO_144000 := Am (R_below (zR HO_144000) hb);replace HO_144001 := Am (R_below (zR HO_144001) hb);replace BK119 := Am (zU BK119 hb);replace BK127 := Am (zU BK127 hb);replace BK135 := Am (zU BK135 hb);replace BK143 := Am (zU BK143 hb);replace HB := Am (below_step (zB HB) hb); (try clear hb)))
     (try simp only [Act.put, zS])
     go_cut [124] (fun v124 wc => ∃ (kq : Nat) (x124_79 : Bool), v124 = .bool x124_79 ∧ Aside0 (epitomelaw11_OverGaps.j2 kq (wrap64 (Int.tmod a2 64)) t105 t136 x21_2 t145 x124_79 x120000_2 x120001_2 x128000_2 x128001_2 x136000_2 x136001_2 x144000_2 x144001_2 = some r) ∧ Aside0 (kq ≤ k2) ∧ Aside0 (Kd.R k26 26 wc w.heap.size (fun _ => True) (.slice Ao16 t105.length co16) t105) ∧ Aside0 (Kd.V Kd.string 9 wc w.heap.size (fun k_ => some k_ ≠ ((.slice Ao16 t105.length co16) : Value).ownBlock ∧ some k_ ≠ (u144000 : Value).ownBlock ∧ some k_ ≠ (u144001 : Value).ownBlock ∧ k_ ≠ gb119 ∧ k_ ≠ gb127 ∧ k_ ≠ gb135 ∧ k_ ≠ gb143) u120000 x120000_2) ∧ Aside0 (Kd.V Kd.bool 4 wc w.heap.size (fun k_ => some k_ ≠ ((.slice Ao16 t105.length co16) : Value).ownBlock ∧ some k_ ≠ (u144000 : Value).ownBlock ∧ some k_ ≠ (u144001 : Value).ownBlock ∧ k_ ≠ gb119 ∧ k_ ≠ gb127 ∧ k_ ≠ gb135 ∧ k_ ≠ gb143) u120001 x120001_2) ∧ Aside0 (Kd.V Kd.string 9 wc w.heap.size (fun k_ => some k_ ≠ ((.slice Ao16 t105.length co16) : Value).ownBlock ∧ some k_ ≠ (u144000 : Value).ownBlock ∧ some k_ ≠ (u144001 : Value).ownBlock ∧ k_ ≠ gb119 ∧ k_ ≠ gb127 ∧ k_ ≠ gb135 ∧ k_ ≠ gb143) u128000 x128000_2) ∧ Aside0 (Kd.V Kd.bool 4 wc w.heap.size (fun k_ => some k_ ≠ ((.slice Ao16 t105.length co16) : Value).ownBlock ∧ some k_ ≠ (u144000 : Value).ownBlock ∧ some k_ ≠ (u144001 : Value).ownBlock ∧ k_ ≠ gb119 ∧ k_ ≠ gb127 ∧ k_ ≠ gb135 ∧ k_ ≠ gb143) u128001 x128001_2) ∧ Aside0 (Kd.V Kd.string 9 wc w.heap.size (fun k_ => some k_ ≠ ((.slice Ao16 t105.length co16) : Value).ownBlock ∧ some k_ ≠ (u144000 : Value).ownBlock ∧ some k_ ≠ (u144001 : Value).ownBlock ∧ k_ ≠ gb119 ∧ k_ ≠ gb127 ∧ k_ ≠ gb135 ∧ k_ ≠ gb143) u136000 x136000_2) ∧ Aside0 (Kd.V Kd.bool 4 wc w.heap.size (fun k_ => some k_ ≠ ((.slice Ao16 t105.length co16) : Value).ownBlock ∧ some k_ ≠ (u144000 : Value).ownBlock ∧ some k_ ≠ (u144001 : Value).ownBlock ∧ k_ ≠ gb119 ∧ k_ ≠ gb127 ∧ k_ ≠ gb135 ∧ k_ ≠ gb143) u136001 x136001_2) ∧ Aside0 (Kd.R Kd.string 9 wc w.heap.size (fun _ => True) u144000 x144000_2) ∧ Aside0 (Kd.R Kd.bool 4 wc w.heap.size (fun _ => True) u144001 x144001_2) ∧ Aside0 (wc.heap[gb119]? = some (.cells #[u120000, u120001] 49 (0, 0))) ∧ Aside0 (wc.heap[gb127]? = some (.cells #[u128000, u128001] 49 (0, 0))) ∧ Aside0 (wc.heap[gb135]? = some (.cells #[u136000, u136001] 49 (0, 0))) ∧ Aside0 (wc.heap[gb143]? = some (.cells #[u144000, u144001] 49 (0, 0))) ∧ Aside0 (Below w.heap.size w wc))
     case first =>
      have H := HC80.out;clear HC80;by_cases c82 : t146 = 0
      rotate_left
      ·rw [if_neg c82] at H;have c82b0 : (t146 == 0) = false := beq_eq_false_iff_ne.mpr c82
       have c82b1 : (t146 != 0) = true := bne_iff_ne.mpr c82
       (first | rw [c82b0] | (simp only [i64_w, i32_w]; rw [c82b0]) | skip)
       have H' := Am H
       clear H;go_wp2
       go_meet
       case rel => exact ⟨_, (true), zG, H', ⟨by have := HJ10.out; have := HK2.out; first | omega | exact Nat.le_refl _⟩, ⟨(zR HO_10)⟩, ⟨(zV HO_120000)⟩, ⟨(zV HO_120001)⟩, ⟨(zV HO_128000)⟩, ⟨(zV HO_128001)⟩, ⟨(zV HO_136000)⟩, ⟨(zV HO_136001)⟩, ⟨(zR HO_144000)⟩, ⟨(zR HO_144001)⟩, ⟨(zK BK119)⟩, ⟨(zK BK127)⟩, ⟨(zK BK135)⟩, ⟨(zK BK143)⟩, ⟨(zB HB)⟩⟩
      rw [if_pos c82] at H;have c82b0 : (t146 == 0) = true := beq_iff_eq.mpr c82
      have c82b1 : (t146 != 0) = false := bne_eq_false_iff_eq.mpr c82
      clear c82;(first | rw [c82b0] | (simp only [i64_w, i32_w]; rw [c82b0]) | skip)
      by_cases c83 : t145 < 0
      ·rw [if_pos c83] at H;have c83b0 : decide (t145 < 0) = true := decide_eq_true c83
       clear c83;have H' := Am H
       clear H;go_wp2
       go_meet
       case rel => exact ⟨_, (true), zG, H', ⟨by have := HJ10.out; have := HK2.out; first | omega | exact Nat.le_refl _⟩, ⟨(zR HO_10)⟩, ⟨(zV HO_120000)⟩, ⟨(zV HO_120001)⟩, ⟨(zV HO_128000)⟩, ⟨(zV HO_128001)⟩, ⟨(zV HO_136000)⟩, ⟨(zV HO_136001)⟩, ⟨(zR HO_144000)⟩, ⟨(zR HO_144001)⟩, ⟨(zK BK119)⟩, ⟨(zK BK127)⟩, ⟨(zK BK135)⟩, ⟨(zK BK143)⟩, ⟨(zB HB)⟩⟩
      rw [if_neg c83] at H;have c83b0 : decide (t145 < 0) = false := decide_eq_false c83
      clear c83;have H' := Am H
      clear H;go_wp2
      go_meet
      case rel => exact ⟨_, (decide (t145 > t136)), zG, H', ⟨by have := HJ10.out; have := HK2.out; first | omega | exact Nat.le_refl _⟩, ⟨(zR HO_10)⟩, ⟨(zV HO_120000)⟩, ⟨(zV HO_120001)⟩, ⟨(zV HO_128000)⟩, ⟨(zV HO_128001)⟩, ⟨(zV HO_136000)⟩, ⟨(zV HO_136001)⟩, ⟨(zR HO_144000)⟩, ⟨(zR HO_144001)⟩, ⟨(zK BK119)⟩, ⟨(zK BK127)⟩, ⟨(zK BK135)⟩, ⟨(zK BK143)⟩, ⟨(zB HB)⟩⟩
     case rest =>
      clear HC80;(try clear p2);(try clear c3);(try clear p6);(try clear c7);(try clear c8);(try clear c33);(try clear p64);(try clear c78);(try clear c78b0);(try clear c82);(try clear c82b0);(try clear c82b1);(try clear c83);(try clear c83b0);(try clear p2);(try clear p6);(try clear p64);obtain ⟨kq, x124_79, rfl, HA, HJ79, HO_10, HO_120000, HO_120001, HO_128000, HO_128001, HO_136000, HO_136001, HO_144000, HO_144001, BK119, BK127, BK135, BK143, HB⟩ := hcut
      cases kq with
      | zero => exact absurd HA.out (by simp [epitomelaw11_OverGaps.j2])
      | succ kj79 =>
       have H := HA.out;clear HA;simp only [epitomelaw11_OverGaps.j2] at H
       by_cases c84 : x124_79 = true
       ·subst c84
        have H1 : (some false) = some r := by rw [if_pos rfl] at H; exact H
        clear H;have H := H1
        clear H1;exact Bool.noConfusion ((Option.some.inj H).trans hr_.out)
       replace c84 := Bool.eq_false_iff.mpr c84
       subst c84
       have H1 : (if 0 ≤ t145 then (if t145 < (x144000_2.length : Int) then (if 0 ≤ x21_2 then (if x21_2 < (x120000_2.length : Int) then (if (rdOf ByteArray.empty x144000_2 t145).size + (rdOf ByteArray.empty x120000_2 x21_2).size ≤ 9223372036854775807 then ((some (x144000_2.set (t145 : Int).toNat ((rdOf ByteArray.empty x144000_2 t145) ++ (rdOf ByteArray.empty x120000_2 x21_2)) : List ByteArray)).bind fun y149 => (if x21_2 < (wrap64 (Int.tmod a2 64)) then (if x21_2 < (x128001_2.length : Int) then (epitomelaw11_OverGaps.j3 kj79 (wrap64 (Int.tmod a2 64)) t105 t136 x21_2 t145 (!(rdOf false x128001_2 x21_2)) x120000_2 x120001_2 x128000_2 x128001_2 x136000_2 x136001_2 y149 x144001_2) else (none)) else (epitomelaw11_OverGaps.j3 kj79 (wrap64 (Int.tmod a2 64)) t105 t136 x21_2 t145 false x120000_2 x120001_2 x128000_2 x128001_2 x136000_2 x136001_2 y149 x144001_2))) else (none)) else (none)) else (none)) else (none)) else (none)) = some r := by rw [if_neg (show ¬ (false = true) by decide)] at H; exact H
       clear H;have H := H1
       clear H1;by_cases c85 : 0 ≤ t145
       rotate_left
       ·rw [if_neg c85] at H;exact absurd H (by simp)
       rw [if_pos c85] at H;have c85b0 : decide (0 ≤ t145) = true := decide_eq_true c85
       clear c85;by_cases c86 : t145 < (x144000_2.length : Int)
       rotate_left
       ·rw [if_neg c86] at H;exact absurd H (by simp)
       rw [if_pos c86] at H;have c86b0 : decide (t145 < (x144000_2.length : Int)) = true := decide_eq_true c86
       clear c86;by_cases c87 : 0 ≤ x21_2
       rotate_left
       ·rw [if_neg c87] at H;exact absurd H (by simp)
       rw [if_pos c87] at H;have c87b0 : decide (0 ≤ x21_2) = true := decide_eq_true c87
       clear c87;by_cases c88 : x21_2 < (x120000_2.length : Int)
       rotate_left
       ·rw [if_neg c88] at H;exact absurd H (by simp)
       rw [if_pos c88] at H;have c88b0 : decide (x21_2 < (x120000_2.length : Int)) = true := decide_eq_true c88
       clear c88;by_cases c89 : (rdOf ByteArray.empty x144000_2 t145).size + (rdOf ByteArray.empty x120000_2 x21_2).size ≤ 9223372036854775807
       rotate_left
       ·rw [if_neg c89] at H;exact absurd H (by simp)
       rw [if_pos c89] at H;have c89b0 := eq_true c89
       have c89b1 : decide ((rdOf ByteArray.empty x144000_2 t145).size + (rdOf ByteArray.empty x120000_2 x21_2).size ≤ 9223372036854775807) = true := decide_eq_true c89
       try have c89b2 : (9223372036854775807 < (rdOf ByteArray.empty x144000_2 t145).size + (rdOf ByteArray.empty x120000_2 x21_2).size) = False := eq_false (Nat.not_lt.2 c89)
       obtain ⟨y149, hy149⟩ : ∃ y_ : List ByteArray, y_ = (x144000_2.set (t145 : Int).toNat ((rdOf ByteArray.empty x144000_2 t145) ++ (rdOf ByteArray.empty x120000_2 x21_2))) := ⟨_, rfl⟩
       replace H : (if x21_2 < (wrap64 (Int.tmod a2 64)) then (if x21_2 < (x128001_2.length : Int) then (epitomelaw11_OverGaps.j3 kj79 (wrap64 (Int.tmod a2 64)) t105 t136 x21_2 t145 (!(rdOf false x128001_2 x21_2)) x120000_2 x120001_2 x128000_2 x128001_2 x136000_2 x136001_2 y149 x144001_2) else (none)) else (epitomelaw11_OverGaps.j3 kj79 (wrap64 (Int.tmod a2 64)) t105 t136 x21_2 t145 false x120000_2 x120001_2 x128000_2 x128001_2 x136000_2 x136001_2 y149 x144001_2)) = some r := by first | (rw [hy149]; with_reducible exact H) | (have H2_ := (Option.bind_some _ _).symm.trans H; rw [hy149]; with_reducible exact H2_) | (have H2_ := (Option.bind_some _ _).symm.trans H; with_reducible exact H2_) | with_reducible exact H | (rw [hy149]; exact H) | exact H
       have Ny149 := Am hy149;clear hy149;have HC91 := Am H;clear H;try go_wp2
       replace HO_10 := Am (R_drew HO_10.out);replace HO_120000 := Am (Kd.V_drew HO_120000.out);replace HO_120001 := Am (Kd.V_drew HO_120001.out);replace HO_128000 := Am (Kd.V_drew HO_128000.out);replace HO_128001 := Am (Kd.V_drew HO_128001.out);replace HO_136000 := Am (Kd.V_drew HO_136000.out);replace HO_136001 := Am (Kd.V_drew HO_136001.out);replace HO_144000 := Am (R_drew HO_144000.out);replace HO_144001 := Am (R_drew HO_144001.out);replace BK119 := Am (blk_drew BK119.out);replace BK127 := Am (blk_drew BK127.out);replace BK135 := Am (blk_drew BK135.out);replace BK143 := Am (blk_drew BK143.out);replace HB := Am (below_drew1 HB.out);obtain ⟨Ao93, co93, eo93⟩ := R_slice HO_144000.out
       (first | subst eo93 | (injection eo93 with f1_ f2_ f3_; have f4_ := f1_.symm; have f5_ := f3_.symm; clear f1_ f2_ f3_; subst f4_; subst f5_))
       have p147 : 0 ≤ (t145 : Int) := of_decide_eq_true (by assumption)
       have q147 : t145 < (x144000_2.length : Int) := of_decide_eq_true (by assumption)
       obtain ⟨ad147, e147, hx147_0⟩ := Kd.at_string (R_reads' HO_144000.out).2.2 t145 p147 q147
       cases e147
       replace p147 := eq_true p147;replace q147 := eq_true q147;obtain ⟨Ao94, co94, eo94⟩ := Kd.V_slice HO_120000.out
       (first | subst eo94 | (injection eo94 with f1_ f2_ f3_; have f4_ := f1_.symm; have f5_ := f3_.symm; clear f1_ f2_ f3_; subst f4_; subst f5_))
       have p148 : 0 ≤ (x21_2 : Int) := of_decide_eq_true (by assumption)
       have q148 : x21_2 < (x120000_2.length : Int) := of_decide_eq_true (by assumption)
       obtain ⟨ad148, e148, hx148_0⟩ := Kd.at_string (Kd.V_reads' HO_120000.out).2.2 x21_2 p148 q148
       cases e148
       replace p148 := eq_true p148;replace q148 := eq_true q148;have p90 : 0 ≤ (t145 : Int) := of_decide_eq_true (by assumption)
       have q90 : (t145 : Int) < ((x144000_2.length : Int) : Int) := of_decide_eq_true (by assumption)
       obtain ⟨go90, co90, eo90, gb90, gl90, cl90, HG90⟩ := R_form HO_144000.out (by omega)
       (first | cases eo90 | (injection eo90 with ea_ en_ ec_; (first | subst ea_ | (injection ea_ with ea_; subst ea_)); subst ec_; clear en_))
       have GB90 := Am gb90;have GG90 := Am HG90;clear gb90 gl90 HG90;(first | simp only [add_plain] at hx147_0 | skip)
       obtain ⟨hx90_0, hf90_0⟩ := R_celln (⟨#[]⟩ : ByteArray) HO_144000.out (t145 : Int) p90 q90
       replace p90 := eq_true p90;replace q90 := eq_true q90;have HP95 := R_putn HO_144000.out (t145 : Int) ((rdOf ByteArray.empty x144000_2 t145) ++ (rdOf ByteArray.empty x120000_2 x21_2))
       rw [← Ny149.out] at HP95
       have HQ95 := Am HP95;clear HP95;refine start_ (n := 16) (S := fun w' => w'.cell? ⟨gb143, 0, none⟩ = some (.slice (some ⟨go90, 0, none⟩) x144000_2.length co93) ∧ w'.cell? ⟨gb143, 1, none⟩ = some (u144001) ∧ w'.cell? ⟨gb119, 0, none⟩ = some (.slice (some ad148) x120000_2.length co94) ∧ w'.cell? ⟨gb119, 1, none⟩ = some (u120001) ∧ w'.cell? ⟨go90, (t145).toNat, none⟩ = some (.string (rdOf ByteArray.empty x144000_2 t145)) ∧ w'.cell? (ad148.add (x21_2).toNat) = some (.string (rdOf ByteArray.empty x120000_2 x21_2))) (ds := [15]) #[false, false, false, false, false, false, false, false, false, false, false, false, false, false, false, false] (by kernel_rfl) rfl rfl ⟨(blk_cell BK143.out 0).trans rfl, (blk_cell BK143.out 1).trans rfl, (blk_cell BK119.out 0).trans rfl, (blk_cell BK119.out 1).trans rfl, hx147_0, hx148_0⟩ (fun hHeld => ?_); refine with_tabW epitomelaw11_OverGaps.tab19 epitomelaw11_OverGaps.bits19 (fun HT_ HW_ => ?_)
       generalize wc.drew = w92 at HO_10 HO_120000 HO_120001 HO_128000 HO_128001 HO_136000 HO_136001 HO_144000 HO_144001 BK119 BK127 BK135 BK143 HB GG90 HQ95 hf90_0 hx147_0 hx148_0 hx90_0 hHeld ⊢
       refine pure_ (i := 0) (N := some 125) (v := ?_) (a' := ?_) #[true, false, false, false, false, false, false, false, false, false, false, false, false, false, false, false] rfl rfl (any_of HT_.out (by kernel_rfl)) (fun _ _ _ h => h) (Or.inl ⟨by rfl, ?_⟩) ?_ ?_
       rotate_left
       ·intro w'
        go_simp;with_reducible rfl
       rotate_left
       ·simp only [Act.put, zS, i64_w, i32_w]
        rfl
       refine pure_ (i := 2) (N := some 127) (v := ?_) (a' := ?_) #[true, false, true, false, false, false, false, false, false, false, false, false, false, false, false, false] rfl rfl (any_of HT_.out (by kernel_rfl)) (fun _ _ _ h => h) (Or.inl ⟨by rfl, ?_⟩) ?_ ?_
       rotate_left
       ·intro w'
        go_simp;with_reducible rfl
       rotate_left
       ·simp only [Act.put, zS, i64_w, i32_w]
        rfl
       refine pure_ (i := 3) (N := some 128) (v := ?_) (a' := ?_) #[true, false, true, true, false, false, false, false, false, false, false, false, false, false, false, false] rfl rfl (any_of HT_.out (by kernel_rfl)) (fun _ _ _ h => h) (Or.inl ⟨by rfl, ?_⟩) ?_ ?_
       rotate_left
       ·intro w'
        go_simp;with_reducible rfl
       rotate_left
       ·simp only [Act.put, zS, i64_w, i32_w]
        rfl
       refine pure_ (i := 5) (N := some 130) (v := ?_) (a' := ?_) #[true, false, true, true, false, true, false, false, false, false, false, false, false, false, false, false] rfl rfl (any_of HT_.out (by kernel_rfl)) (fun _ _ _ h => h) (Or.inl ⟨by rfl, ?_⟩) ?_ ?_
       rotate_left
       ·intro w'
        go_simp;with_reducible rfl
       rotate_left
       ·simp only [Act.put, zS, i64_w, i32_w]
        rfl
       refine pure_ (i := 8) (N := some 133) (v := ?_) (a' := ?_) #[true, false, true, true, false, true, false, false, true, false, false, false, false, false, false, false] rfl rfl (any_of HT_.out (by kernel_rfl)) (fun _ _ _ h => h) (Or.inl ⟨by rfl, ?_⟩) ?_ ?_
       rotate_left
       ·intro w'
        go_simp;with_reducible rfl
       rotate_left
       ·simp only [Act.put, zS, i64_w, i32_w]
        rfl
       refine pure_ (i := 10) (N := some 135) (v := ?_) (a' := ?_) #[true, false, true, true, false, true, false, false, true, false, true, false, false, false, false, false] rfl rfl (any_of HT_.out (by kernel_rfl)) (fun _ _ _ h => h) (Or.inl ⟨by rfl, ?_⟩) ?_ ?_
       rotate_left
       ·intro w'
        go_simp;with_reducible rfl
       rotate_left
       ·simp only [Act.put, zS, i64_w, i32_w]
        rfl
       refine take_ (i := 1) (N := some 126) (v := ?_) (a' := ?_) #[true, true, true, true, false, true, false, false, true, false, true, false, false, false, false, false] rfl rfl (take_ofW HT_.out HW_.out (by kernel_rfl)) (fun _ _ _ h => h) (Or.inl ⟨by rfl, ?_⟩) hHeld ?_ ?_
       rotate_left
       ·rintro w' ⟨s0, s1, s2, s3, s4, s5⟩
        go_simp;with_reducible rfl
       rotate_left
       ·simp only [Act.put, zS, i64_w, i32_w]
        rfl
       refine take_ (i := 4) (N := some 129) (v := ?_) (a' := ?_) #[true, true, true, true, true, true, false, false, true, false, true, false, false, false, false, false] rfl rfl (take_ofW HT_.out HW_.out (by kernel_rfl)) (fun _ _ _ h => h) (Or.inl ⟨by rfl, ?_⟩) hHeld ?_ ?_
       rotate_left
       ·rintro w' ⟨s0, s1, s2, s3, s4, s5⟩
        go_simp;with_reducible rfl
       rotate_left
       ·simp only [Act.put, zS, i64_w, i32_w]
        rfl
       refine pure_ (i := 6) (N := some 131) (v := ?_) (a' := ?_) #[true, true, true, true, true, true, true, false, true, false, true, false, false, false, false, false] rfl rfl (any_of HT_.out (by kernel_rfl)) (fun _ _ _ h => h) (Or.inl ⟨by rfl, ?_⟩) ?_ ?_
       rotate_left
       ·intro w'
        go_simp;with_reducible rfl
       rotate_left
       ·simp only [Act.put, zS, i64_w, i32_w]
        rfl
       refine take_ (i := 7) (N := some 132) (v := ?_) (a' := ?_) #[true, true, true, true, true, true, true, true, true, false, true, false, false, false, false, false] rfl rfl (take_ofW HT_.out HW_.out (by kernel_rfl)) (fun _ _ _ h => h) (Or.inl ⟨by rfl, ?_⟩) hHeld ?_ ?_
       rotate_left
       ·rintro w' ⟨s0, s1, s2, s3, s4, s5⟩
        go_simp;with_reducible rfl
       rotate_left
       ·simp only [Act.put, zS, i64_w, i32_w]
        rfl
       refine take_ (i := 9) (N := some 134) (v := ?_) (a' := ?_) #[true, true, true, true, true, true, true, true, true, true, true, false, false, false, false, false] rfl rfl (take_ofW HT_.out HW_.out (by kernel_rfl)) (fun _ _ _ h => h) (Or.inl ⟨by rfl, ?_⟩) hHeld ?_ ?_
       rotate_left
       ·rintro w' ⟨s0, s1, s2, s3, s4, s5⟩
        go_simp;with_reducible rfl
       rotate_left
       ·simp only [Act.put, zS, i64_w, i32_w]
        rfl
       refine pure_ (i := 11) (N := some 136) (v := ?_) (a' := ?_) #[true, true, true, true, true, true, true, true, true, true, true, true, false, false, false, false] rfl rfl (any_of HT_.out (by kernel_rfl)) (fun _ _ _ h => h) (Or.inl ⟨by rfl, ?_⟩) ?_ ?_
       rotate_left
       ·intro w'
        go_simp;with_reducible rfl
       rotate_left
       ·simp only [Act.put, zS, i64_w, i32_w]
        rfl
       refine take_ (i := 12) (N := some 137) (v := ?_) (a' := ?_) #[true, true, true, true, true, true, true, true, true, true, true, true, true, false, false, false] rfl rfl (take_ofW HT_.out HW_.out (by kernel_rfl)) (fun _ _ _ h => h) (Or.inl ⟨by rfl, ?_⟩) hHeld ?_ ?_
       rotate_left
       ·rintro w' ⟨s0, s1, s2, s3, s4, s5⟩
        go_simp;with_reducible rfl
       rotate_left
       ·simp only [Act.put, zS, i64_w, i32_w]
        rfl
       refine pure_ (i := 13) (N := some 138) (v := ?_) (a' := ?_) #[true, true, true, true, true, true, true, true, true, true, true, true, true, true, false, false] rfl rfl (any_of HT_.out (by kernel_rfl)) (fun _ _ _ h => h) (Or.inl ⟨by rfl, ?_⟩) ?_ ?_
       rotate_left
       ·intro w'
        go_simp;with_reducible rfl
       rotate_left
       ·simp only [Act.put, zS, i64_w, i32_w]
        rfl
       refine pure_ (i := 14) (N := some 139) (v := ?_) (a' := ?_) #[true, true, true, true, true, true, true, true, true, true, true, true, true, true, true, false] rfl rfl (any_of HT_.out (by kernel_rfl)) (fun _ _ _ h => h) (Or.inl ⟨by rfl, ?_⟩) ?_ ?_
       rotate_left
       ·intro w'
        go_simp;with_reducible rfl
       rotate_left
       ·simp only [Act.put, zS, i64_w, i32_w]
        rfl
       refine last_ (i := 15) (N := none) #[true, true, true, true, true, true, true, true, true, true, true, true, true, true, true, true] rfl rfl (one_of HT_.out (by kernel_rfl)) (by decide) (fun K hK => ?_)
       refine skip_ (w1 := ?_) (by rfl) rfl ?_ ?_
       rotate_left
       ·go_simp;rfl
       refine hK.out _ _ ?_
       clear hK K;refine done_ (done_of HT_.out (by kernel_rfl)) ?_
       go_upto_region 20 with (fail)
       go_cut [150] (fun v150 wc => ∃ (kq : Nat) (x150_90 : Bool), v150 = .bool x150_90 ∧ Aside0 (epitomelaw11_OverGaps.j3 kq (wrap64 (Int.tmod a2 64)) t105 t136 x21_2 t145 x150_90 x120000_2 x120001_2 x128000_2 x128001_2 x136000_2 x136001_2 y149 x144001_2 = some r) ∧ Aside0 (kq ≤ kj79) ∧ Aside0 (Kd.R k26 26 wc w.heap.size (fun _ => True) (.slice Ao16 t105.length co16) t105) ∧ Aside0 (Kd.V Kd.string 9 wc w.heap.size (fun k_ => some k_ ≠ ((.slice Ao16 t105.length co16) : Value).ownBlock ∧ some k_ ≠ ((.slice (some ⟨go90, 0, none⟩) x144000_2.length co93) : Value).ownBlock ∧ some k_ ≠ (u144001 : Value).ownBlock ∧ k_ ≠ gb119 ∧ k_ ≠ gb127 ∧ k_ ≠ gb135 ∧ k_ ≠ gb143) (.slice (some ad148) x120000_2.length co94) x120000_2) ∧ Aside0 (Kd.V Kd.bool 4 wc w.heap.size (fun k_ => some k_ ≠ ((.slice Ao16 t105.length co16) : Value).ownBlock ∧ some k_ ≠ ((.slice (some ⟨go90, 0, none⟩) x144000_2.length co93) : Value).ownBlock ∧ some k_ ≠ (u144001 : Value).ownBlock ∧ k_ ≠ gb119 ∧ k_ ≠ gb127 ∧ k_ ≠ gb135 ∧ k_ ≠ gb143) u120001 x120001_2) ∧ Aside0 (Kd.V Kd.string 9 wc w.heap.size (fun k_ => some k_ ≠ ((.slice Ao16 t105.length co16) : Value).ownBlock ∧ some k_ ≠ ((.slice (some ⟨go90, 0, none⟩) x144000_2.length co93) : Value).ownBlock ∧ some k_ ≠ (u144001 : Value).ownBlock ∧ k_ ≠ gb119 ∧ k_ ≠ gb127 ∧ k_ ≠ gb135 ∧ k_ ≠ gb143) u128000 x128000_2) ∧ Aside0 (Kd.V Kd.bool 4 wc w.heap.size (fun k_ => some k_ ≠ ((.slice Ao16 t105.length co16) : Value).ownBlock ∧ some k_ ≠ ((.slice (some ⟨go90, 0, none⟩) x144000_2.length co93) : Value).ownBlock ∧ some k_ ≠ (u144001 : Value).ownBlock ∧ k_ ≠ gb119 ∧ k_ ≠ gb127 ∧ k_ ≠ gb135 ∧ k_ ≠ gb143) u128001 x128001_2) ∧ Aside0 (Kd.V Kd.string 9 wc w.heap.size (fun k_ => some k_ ≠ ((.slice Ao16 t105.length co16) : Value).ownBlock ∧ some k_ ≠ ((.slice (some ⟨go90, 0, none⟩) x144000_2.length co93) : Value).ownBlock ∧ some k_ ≠ (u144001 : Value).ownBlock ∧ k_ ≠ gb119 ∧ k_ ≠ gb127 ∧ k_ ≠ gb135 ∧ k_ ≠ gb143) u136000 x136000_2) ∧ Aside0 (Kd.V Kd.bool 4 wc w.heap.size (fun k_ => some k_ ≠ ((.slice Ao16 t105.length co16) : Value).ownBlock ∧ some k_ ≠ ((.slice (some ⟨go90, 0, none⟩) x144000_2.length co93) : Value).ownBlock ∧ some k_ ≠ (u144001 : Value).ownBlock ∧ k_ ≠ gb119 ∧ k_ ≠ gb127 ∧ k_ ≠ gb135 ∧ k_ ≠ gb143) u136001 x136001_2) ∧ Aside0 (Kd.R Kd.string 9 wc w.heap.size (fun _ => True) (.slice (some ⟨go90, 0, none⟩) x144000_2.length co93) y149) ∧ Aside0 (Kd.R Kd.bool 4 wc w.heap.size (fun _ => True) u144001 x144001_2) ∧ Aside0 (wc.heap[gb119]? = some (.cells #[(.slice (some ad148) x120000_2.length co94), u120001] 49 (0, 0))) ∧ Aside0 (wc.heap[gb127]? = some (.cells #[u128000, u128001] 49 (0, 0))) ∧ Aside0 (wc.heap[gb135]? = some (.cells #[u136000, u136001] 49 (0, 0))) ∧ Aside0 (wc.heap[gb143]? = some (.cells #[(.slice (some ⟨go90, 0, none⟩) x144000_2.length co93), u144001] 49 (0, 0))) ∧ Aside0 (Below w.heap.size w wc))
       case first =>
        have H := HC91.out;clear HC91;by_cases c96 : x21_2 < (wrap64 (Int.tmod a2 64))
        rotate_left
        ·rw [if_neg c96] at H;have c96b0 : decide (x21_2 < (wrap64 (Int.tmod a2 64))) = false := decide_eq_false c96
         clear c96;(first | rw [c96b0] | (simp only [i64_w, i32_w]; rw [c96b0]) | skip)
         have H' := Am H
         clear H;go_wp2
         go_meet
         case rel => exact ⟨_, (false), zG, H', ⟨by have := HJ10.out; have := HK2.out; have := HJ79.out; first | omega | exact Nat.le_refl _⟩, ⟨by (with_reducible repeat (first | apply zA.a | apply zA.n | apply zA.d)); exact R_mono (R_far (p := ⟨go90, (t145 : Int).toNat, none⟩) (R_types HO_10.out GG90.out (by decide)) (fun _ hk => hk.2) (.string ((rdOf ByteArray.empty x144000_2 t145) ++ (rdOf ByteArray.empty x120000_2 x21_2)))) (fun _ hk => trivial)⟩, ⟨by (with_reducible repeat (first | apply Kd.V_alloc | apply Kd.V_drewN | apply Kd.V_drew)); exact Kd.V_mono (Kd.V_far (p := ⟨go90, (t145 : Int).toNat, none⟩) (Kd.V_mono HO_120000.out (fun k_ hk => (⟨hk, fun e_ => hk.2.1 (by rw [e_]; rfl)⟩ : _ ∧ k_ ≠ go90))) (fun _ hk => hk.2) (.string ((rdOf ByteArray.empty x144000_2 t145) ++ (rdOf ByteArray.empty x120000_2 x21_2)))) zp⟩, ⟨by (with_reducible repeat (first | apply Kd.V_alloc | apply Kd.V_drewN | apply Kd.V_drew)); exact Kd.V_mono (Kd.V_far (p := ⟨go90, (t145 : Int).toNat, none⟩) (Kd.V_mono HO_120001.out (fun k_ hk => (⟨hk, fun e_ => hk.2.1 (by rw [e_]; rfl)⟩ : _ ∧ k_ ≠ go90))) (fun _ hk => hk.2) (.string ((rdOf ByteArray.empty x144000_2 t145) ++ (rdOf ByteArray.empty x120000_2 x21_2)))) zp⟩, ⟨by (with_reducible repeat (first | apply Kd.V_alloc | apply Kd.V_drewN | apply Kd.V_drew)); exact Kd.V_mono (Kd.V_far (p := ⟨go90, (t145 : Int).toNat, none⟩) (Kd.V_mono HO_128000.out (fun k_ hk => (⟨hk, fun e_ => hk.2.1 (by rw [e_]; rfl)⟩ : _ ∧ k_ ≠ go90))) (fun _ hk => hk.2) (.string ((rdOf ByteArray.empty x144000_2 t145) ++ (rdOf ByteArray.empty x120000_2 x21_2)))) zp⟩, ⟨by (with_reducible repeat (first | apply Kd.V_alloc | apply Kd.V_drewN | apply Kd.V_drew)); exact Kd.V_mono (Kd.V_far (p := ⟨go90, (t145 : Int).toNat, none⟩) (Kd.V_mono HO_128001.out (fun k_ hk => (⟨hk, fun e_ => hk.2.1 (by rw [e_]; rfl)⟩ : _ ∧ k_ ≠ go90))) (fun _ hk => hk.2) (.string ((rdOf ByteArray.empty x144000_2 t145) ++ (rdOf ByteArray.empty x120000_2 x21_2)))) zp⟩, ⟨by (with_reducible repeat (first | apply Kd.V_alloc | apply Kd.V_drewN | apply Kd.V_drew)); exact Kd.V_mono (Kd.V_far (p := ⟨go90, (t145 : Int).toNat, none⟩) (Kd.V_mono HO_136000.out (fun k_ hk => (⟨hk, fun e_ => hk.2.1 (by rw [e_]; rfl)⟩ : _ ∧ k_ ≠ go90))) (fun _ hk => hk.2) (.string ((rdOf ByteArray.empty x144000_2 t145) ++ (rdOf ByteArray.empty x120000_2 x21_2)))) zp⟩, ⟨by (with_reducible repeat (first | apply Kd.V_alloc | apply Kd.V_drewN | apply Kd.V_drew)); exact Kd.V_mono (Kd.V_far (p := ⟨go90, (t145 : Int).toNat, none⟩) (Kd.V_mono HO_136001.out (fun k_ hk => (⟨hk, fun e_ => hk.2.1 (by rw [e_]; rfl)⟩ : _ ∧ k_ ≠ go90))) (fun _ hk => hk.2) (.string ((rdOf ByteArray.empty x144000_2 t145) ++ (rdOf ByteArray.empty x120000_2 x21_2)))) zp⟩, ⟨(zR HQ95)⟩, ⟨by (with_reducible repeat (first | apply zA.a | apply zA.n | apply zA.d)); exact R_mono (R_far (p := ⟨go90, (t145 : Int).toNat, none⟩) (R_types HO_144001.out GG90.out (by decide)) (fun _ hk => hk.2) (.string ((rdOf ByteArray.empty x144000_2 t145) ++ (rdOf ByteArray.empty x120000_2 x21_2)))) (fun _ hk => trivial)⟩, ⟨by (with_reducible repeat (first | refine zA.f ?_ _ | refine zA.g ?_ | refine zA.h ?_ _)); refine blk_far ?_ (by have h_ := R_ne HO_144000.out BK119.out (by decide); intro e_; exact h_ (by rw [e_]; rfl)) _; (with_reducible repeat (first | refine zA.f ?_ _ | refine zA.g ?_ | refine zA.h ?_ _)); exact BK119.out⟩, ⟨by (with_reducible repeat (first | refine zA.f ?_ _ | refine zA.g ?_ | refine zA.h ?_ _)); refine blk_far ?_ (by have h_ := R_ne HO_144000.out BK127.out (by decide); intro e_; exact h_ (by rw [e_]; rfl)) _; (with_reducible repeat (first | refine zA.f ?_ _ | refine zA.g ?_ | refine zA.h ?_ _)); exact BK127.out⟩, ⟨by (with_reducible repeat (first | refine zA.f ?_ _ | refine zA.g ?_ | refine zA.h ?_ _)); refine blk_far ?_ (by have h_ := R_ne HO_144000.out BK135.out (by decide); intro e_; exact h_ (by rw [e_]; rfl)) _; (with_reducible repeat (first | refine zA.f ?_ _ | refine zA.g ?_ | refine zA.h ?_ _)); exact BK135.out⟩, ⟨by (with_reducible repeat (first | refine zA.f ?_ _ | refine zA.g ?_ | refine zA.h ?_ _)); refine blk_far ?_ (by have h_ := R_ne HO_144000.out BK143.out (by decide); intro e_; exact h_ (by rw [e_]; rfl)) _; (with_reducible repeat (first | refine zA.f ?_ _ | refine zA.g ?_ | refine zA.h ?_ _)); exact BK143.out⟩, ⟨by repeat (first | (with_reducible first | exact HB.out | apply zA.b | apply zA.w | apply zA.e | refine zA.s ?_ GB90.out | refine zA.s ?_ GE119.out | refine zA.s ?_ GE127.out | refine zA.s ?_ GE135.out | refine zA.s ?_ GE143.out) | exact HB.out)⟩⟩
        rw [if_pos c96] at H;have c96b0 : decide (x21_2 < (wrap64 (Int.tmod a2 64))) = true := decide_eq_true c96
        clear c96;(first | rw [c96b0] | (simp only [i64_w, i32_w]; rw [c96b0]) | skip)
        by_cases c97 : x21_2 < (x128001_2.length : Int)
        rotate_left
        ·rw [if_neg c97] at H;exact absurd H (by simp)
        rw [if_pos c97] at H;have c97b0 : decide (x21_2 < (x128001_2.length : Int)) = true := decide_eq_true c97
        clear c97;have H' := Am H
        clear H;have hnb98 := NB127_119.out;have hnc98 := NB119_127.out;have hnb99 := NB127_135.out;have hnc99 := NB135_127.out;have hnb100 := NB127_143.out;have hnc100 := NB143_127.out;have hcz101_0 : w92.cell? ⟨gb127, 0, none⟩ = some (u128000) := (blk_cell BK127.out 0).trans rfl
        have hnbz101 : gb127 ≠ go90 := by first | exact (fun e_ => R_ne HO_144000.out BK127.out (by decide) (by rw [e_]; rfl)) | (intro e_; obtain ⟨c_, hc_⟩ := GG90.out; rw [← e_, BK127.out] at hc_; cases hc_)
        have hncz101 : go90 ≠ gb127 := fun e_ => hnbz101 e_.symm
        have hcz101_1 : w92.cell? ⟨gb127, 1, none⟩ = some (u128001) := (blk_cell BK127.out 1).trans rfl
        have hfz101_0 := blk_frozen BK127.out 0;have hfz101_1 := blk_frozen BK127.out 1;obtain ⟨Ao102, co102, eo102⟩ := Kd.V_slice HO_128001.out
        subst eo102
        have p150 : 0 ≤ (x21_2 : Int) := of_decide_eq_true (by assumption)
        have q150 : x21_2 < (x128001_2.length : Int) := of_decide_eq_true (by assumption)
        obtain ⟨ad150, e150, hx150_0⟩ := Kd.at_bool (Kd.V_reads' HO_128001.out).2.2 x21_2 p150 q150
        cases e150
        have hn150_0 : ad150.block ≠ go90 := (fun e_ => ((Kd.V_inb HO_128001.out (by first | omega | (have a_ := of_eq_true p150; have b_ := of_eq_true q150; omega)) (by decide)).2.1) (by rw [e_]; rfl))
        replace hx150_0 := (cell_far (p := ⟨go90, (t145 : Int).toNat, none⟩) (zN hn150_0) (.string ((rdOf ByteArray.empty x144000_2 t145) ++ (rdOf ByteArray.empty x120000_2 x21_2)))).trans hx150_0
        clear hn150_0;replace p150 := eq_true p150;replace q150 := eq_true q150;go_wp2
        go_meet
        case rel => exact ⟨_, (!(rdOf false x128001_2 x21_2)), zG, H', ⟨by have := HJ10.out; have := HK2.out; have := HJ79.out; first | omega | exact Nat.le_refl _⟩, ⟨by (with_reducible repeat (first | apply zA.a | apply zA.n | apply zA.d)); exact R_mono (R_far (p := ⟨go90, (t145 : Int).toNat, none⟩) (R_types HO_10.out GG90.out (by decide)) (fun _ hk => hk.2) (.string ((rdOf ByteArray.empty x144000_2 t145) ++ (rdOf ByteArray.empty x120000_2 x21_2)))) (fun _ hk => trivial)⟩, ⟨by (with_reducible repeat (first | apply Kd.V_alloc | apply Kd.V_drewN | apply Kd.V_drew)); exact Kd.V_mono (Kd.V_far (p := ⟨go90, (t145 : Int).toNat, none⟩) (Kd.V_mono HO_120000.out (fun k_ hk => (⟨hk, fun e_ => hk.2.1 (by rw [e_]; rfl)⟩ : _ ∧ k_ ≠ go90))) (fun _ hk => hk.2) (.string ((rdOf ByteArray.empty x144000_2 t145) ++ (rdOf ByteArray.empty x120000_2 x21_2)))) zp⟩, ⟨by (with_reducible repeat (first | apply Kd.V_alloc | apply Kd.V_drewN | apply Kd.V_drew)); exact Kd.V_mono (Kd.V_far (p := ⟨go90, (t145 : Int).toNat, none⟩) (Kd.V_mono HO_120001.out (fun k_ hk => (⟨hk, fun e_ => hk.2.1 (by rw [e_]; rfl)⟩ : _ ∧ k_ ≠ go90))) (fun _ hk => hk.2) (.string ((rdOf ByteArray.empty x144000_2 t145) ++ (rdOf ByteArray.empty x120000_2 x21_2)))) zp⟩, ⟨by (with_reducible repeat (first | apply Kd.V_alloc | apply Kd.V_drewN | apply Kd.V_drew)); exact Kd.V_mono (Kd.V_far (p := ⟨go90, (t145 : Int).toNat, none⟩) (Kd.V_mono HO_128000.out (fun k_ hk => (⟨hk, fun e_ => hk.2.1 (by rw [e_]; rfl)⟩ : _ ∧ k_ ≠ go90))) (fun _ hk => hk.2) (.string ((rdOf ByteArray.empty x144000_2 t145) ++ (rdOf ByteArray.empty x120000_2 x21_2)))) zp⟩, ⟨by (with_reducible repeat (first | apply Kd.V_alloc | apply Kd.V_drewN | apply Kd.V_drew)); exact Kd.V_mono (Kd.V_far (p := ⟨go90, (t145 : Int).toNat, none⟩) (Kd.V_mono HO_128001.out (fun k_ hk => (⟨hk, fun e_ => hk.2.1 (by rw [e_]; rfl)⟩ : _ ∧ k_ ≠ go90))) (fun _ hk => hk.2) (.string ((rdOf ByteArray.empty x144000_2 t145) ++ (rdOf ByteArray.empty x120000_2 x21_2)))) zp⟩, ⟨by (with_reducible repeat (first | apply Kd.V_alloc | apply Kd.V_drewN | apply Kd.V_drew)); exact Kd.V_mono (Kd.V_far (p := ⟨go90, (t145 : Int).toNat, none⟩) (Kd.V_mono HO_136000.out (fun k_ hk => (⟨hk, fun e_ => hk.2.1 (by rw [e_]; rfl)⟩ : _ ∧ k_ ≠ go90))) (fun _ hk => hk.2) (.string ((rdOf ByteArray.empty x144000_2 t145) ++ (rdOf ByteArray.empty x120000_2 x21_2)))) zp⟩, ⟨by (with_reducible repeat (first | apply Kd.V_alloc | apply Kd.V_drewN | apply Kd.V_drew)); exact Kd.V_mono (Kd.V_far (p := ⟨go90, (t145 : Int).toNat, none⟩) (Kd.V_mono HO_136001.out (fun k_ hk => (⟨hk, fun e_ => hk.2.1 (by rw [e_]; rfl)⟩ : _ ∧ k_ ≠ go90))) (fun _ hk => hk.2) (.string ((rdOf ByteArray.empty x144000_2 t145) ++ (rdOf ByteArray.empty x120000_2 x21_2)))) zp⟩, ⟨(zR HQ95)⟩, ⟨by (with_reducible repeat (first | apply zA.a | apply zA.n | apply zA.d)); exact R_mono (R_far (p := ⟨go90, (t145 : Int).toNat, none⟩) (R_types HO_144001.out GG90.out (by decide)) (fun _ hk => hk.2) (.string ((rdOf ByteArray.empty x144000_2 t145) ++ (rdOf ByteArray.empty x120000_2 x21_2)))) (fun _ hk => trivial)⟩, ⟨by (with_reducible repeat (first | refine zA.f ?_ _ | refine zA.g ?_ | refine zA.h ?_ _)); refine blk_far ?_ (by have h_ := R_ne HO_144000.out BK119.out (by decide); intro e_; exact h_ (by rw [e_]; rfl)) _; (with_reducible repeat (first | refine zA.f ?_ _ | refine zA.g ?_ | refine zA.h ?_ _)); exact BK119.out⟩, ⟨by (with_reducible repeat (first | refine zA.f ?_ _ | refine zA.g ?_ | refine zA.h ?_ _)); refine blk_far ?_ (by have h_ := R_ne HO_144000.out BK127.out (by decide); intro e_; exact h_ (by rw [e_]; rfl)) _; (with_reducible repeat (first | refine zA.f ?_ _ | refine zA.g ?_ | refine zA.h ?_ _)); exact BK127.out⟩, ⟨by (with_reducible repeat (first | refine zA.f ?_ _ | refine zA.g ?_ | refine zA.h ?_ _)); refine blk_far ?_ (by have h_ := R_ne HO_144000.out BK135.out (by decide); intro e_; exact h_ (by rw [e_]; rfl)) _; (with_reducible repeat (first | refine zA.f ?_ _ | refine zA.g ?_ | refine zA.h ?_ _)); exact BK135.out⟩, ⟨by (with_reducible repeat (first | refine zA.f ?_ _ | refine zA.g ?_ | refine zA.h ?_ _)); refine blk_far ?_ (by have h_ := R_ne HO_144000.out BK143.out (by decide); intro e_; exact h_ (by rw [e_]; rfl)) _; (with_reducible repeat (first | refine zA.f ?_ _ | refine zA.g ?_ | refine zA.h ?_ _)); exact BK143.out⟩, ⟨by repeat (first | (with_reducible first | exact HB.out | apply zA.b | apply zA.w | apply zA.e | refine zA.s ?_ GB90.out | refine zA.s ?_ GE119.out | refine zA.s ?_ GE127.out | refine zA.s ?_ GE135.out | refine zA.s ?_ GE143.out) | exact HB.out)⟩⟩
       case rest =>
        clear HC91;(try clear c1);(try clear p1);(try clear q1);(try clear hx1);(try clear p2);(try clear c3);(try clear p6);(try clear c7);(try clear c8);(try clear c9);(try clear p9);(try clear q9);(try clear hx9);(try clear hf9);(try clear c10);(try clear p14);(try clear q14);(try clear hx14);(try clear p15);(try clear q15);(try clear hx15);(try clear c33);(try clear p64);(try clear c78);(try clear c78b0);(try clear c82);(try clear c82b0);(try clear c82b1);(try clear c83);(try clear c83b0);(try clear c84);(try clear c85);(try clear c85b0);(try clear c86);(try clear c86b0);(try clear c87);(try clear c87b0);(try clear c88);(try clear c88b0);(try clear c89);(try clear c89b0);(try clear c89b1);(try clear c89b2);(try clear p90);(try clear q90);(try clear hx90);(try clear hf90);(try clear c96);(try clear c96b0);(try clear c97);(try clear c97b0);(try clear c98);(try clear c99);(try clear c100);(try clear hcz101_0);(try clear hcz101_1);(try clear hfz101_0);(try clear hfz101_1);(try clear hx147_0);(try clear hx148_0);(try clear hx150_0);(try clear hx90_0);(try clear p147);(try clear p148);(try clear p150);(try clear p2);(try clear p6);(try clear p64);(try clear p90);(try clear q147);(try clear q148);(try clear q150);(try clear q90);obtain ⟨kq, x150_90, rfl, HA, HJ90, HO_10, HO_120000, HO_120001, HO_128000, HO_128001, HO_136000, HO_136001, HO_144000, HO_144001, BK119, BK127, BK135, BK143, HB⟩ := hcut
        have hl144000_90 := (R_reads' HO_144000.out).1
        rw [hl144000_90] at HO_144000
        (try simp only [hl144000_90])
        (try simp only [hl144000_90] at BK119)
        (try simp only [hl144000_90] at BK127)
        (try simp only [hl144000_90] at BK135)
        (try simp only [hl144000_90] at BK143)
        (try simp only [hl144000_90] at HO_10)
        (try simp only [hl144000_90] at HO_120000)
        (try simp only [hl144000_90] at HO_120001)
        (try simp only [hl144000_90] at HO_128000)
        (try simp only [hl144000_90] at HO_128001)
        (try simp only [hl144000_90] at HO_136000)
        (try simp only [hl144000_90] at HO_136001)
        (try simp only [hl144000_90] at HO_144001)
        cases kq with
        | zero => exact absurd HA.out (by simp [epitomelaw11_OverGaps.j3])
        | succ kj90 =>
         have H := HA.out;clear HA;simp only [epitomelaw11_OverGaps.j3] at H
         by_cases c103 : x150_90 = true
         rotate_left
         ·replace c103 := Bool.eq_false_iff.mpr c103
          subst c103
          have H1 : (epitomelaw11_OverGaps.l0 kj90 (wrap64 (Int.tmod a2 64)) t105 t136 (wrap64 (x21_2 + 1)) x120000_2 x120001_2 x128000_2 x128001_2 x136000_2 x136001_2 y149 x144001_2) = some r := by rw [if_neg (show ¬ (false = true) by decide)] at H; exact H
          clear H;have H := H1
          clear H1;have H' := Am H
          clear H;go_wp2
          (try simp only [← hl144000_90])
          go_roundg kj90
          case measure => have := HJ10.out; have := HK2.out; have := HJ79.out; have := HJ90.out; omega
          case rel => exact ⟨(wrap64 (x21_2 + 1)), (x120000_2), (x120001_2), (x128000_2), (x128001_2), (x136000_2), (x136001_2), (y149), (x144001_2), (.slice (some ad148) x120000_2.length co94), (u120001), (u128000), (u128001), (u136000), (u136001), (.slice (some ⟨go90, 0, none⟩) y149.length co93), (u144001), zG, H', ⟨by have := HJ10.out; have := HK2.out; have := HJ79.out; have := HJ90.out; omega⟩, ⟨by (try simp only [hl144000_90]); (with_reducible repeat (first | apply zA.a | apply zA.n | apply zA.d)); exact HO_10.out⟩, ⟨by (try simp only [hl144000_90]); (with_reducible repeat (first | apply Kd.V_alloc | apply Kd.V_drewN | apply Kd.V_drew)); exact HO_120000.out⟩, ⟨by (try simp only [hl144000_90]); (with_reducible repeat (first | apply Kd.V_alloc | apply Kd.V_drewN | apply Kd.V_drew)); exact HO_120001.out⟩, ⟨by (try simp only [hl144000_90]); (with_reducible repeat (first | apply Kd.V_alloc | apply Kd.V_drewN | apply Kd.V_drew)); exact HO_128000.out⟩, ⟨by (try simp only [hl144000_90]); (with_reducible repeat (first | apply Kd.V_alloc | apply Kd.V_drewN | apply Kd.V_drew)); exact HO_128001.out⟩, ⟨by (try simp only [hl144000_90]); (with_reducible repeat (first | apply Kd.V_alloc | apply Kd.V_drewN | apply Kd.V_drew)); exact HO_136000.out⟩, ⟨by (try simp only [hl144000_90]); (with_reducible repeat (first | apply Kd.V_alloc | apply Kd.V_drewN | apply Kd.V_drew)); exact HO_136001.out⟩, ⟨by (try simp only [hl144000_90]); (with_reducible repeat (first | apply zA.a | apply zA.n | apply zA.d)); exact HO_144000.out⟩, ⟨by (try simp only [hl144000_90]); (with_reducible repeat (first | apply zA.a | apply zA.n | apply zA.d)); exact HO_144001.out⟩, ⟨by (try simp only [hl144000_90]); (with_reducible repeat (first | refine zA.f ?_ _ | refine zA.g ?_ | refine zA.h ?_ _)); exact BK119.out⟩, ⟨by (try simp only [hl144000_90]); (with_reducible repeat (first | refine zA.f ?_ _ | refine zA.g ?_ | refine zA.h ?_ _)); exact BK127.out⟩, ⟨by (try simp only [hl144000_90]); (with_reducible repeat (first | refine zA.f ?_ _ | refine zA.g ?_ | refine zA.h ?_ _)); exact BK135.out⟩, ⟨by (try simp only [hl144000_90]); (with_reducible repeat (first | refine zA.f ?_ _ | refine zA.g ?_ | refine zA.h ?_ _)); exact BK143.out⟩, ⟨(zB HB)⟩⟩
         subst c103
         have H1 : (if t145 ≥ t136 then (some false) else (if 0 ≤ x21_2 then (if x21_2 < (x120001_2.length : Int) then (if 0 ≤ t145 then (if t145 < (x144001_2.length : Int) then (epitomelaw11_OverGaps.l0 kj90 (wrap64 (Int.tmod a2 64)) t105 t136 (wrap64 (x21_2 + 1)) x120000_2 x120001_2 x128000_2 x128001_2 x136000_2 x136001_2 y149 (x144001_2.set (t145 : Int).toNat (rdOf false x120001_2 x21_2))) else (none)) else (none)) else (none)) else (none))) = some r := by rw [if_pos rfl] at H; exact H
         clear H;have H := H1
         clear H1;by_cases c104 : t145 ≥ t136
         ·rw [if_pos c104] at H;have c104b0 : decide (t136 ≤ t145) = true := decide_eq_true c104
          clear c104;exact Bool.noConfusion ((Option.some.inj H).trans hr_.out)
         rw [if_neg c104] at H;have c104b0 : decide (t136 ≤ t145) = false := decide_eq_false c104
         clear c104;by_cases c105 : 0 ≤ x21_2
         rotate_left
         ·rw [if_neg c105] at H;exact absurd H (by simp)
         rw [if_pos c105] at H;have c105b0 : decide (0 ≤ x21_2) = true := decide_eq_true c105
         clear c105;by_cases c106 : x21_2 < (x120001_2.length : Int)
         rotate_left
         ·rw [if_neg c106] at H;exact absurd H (by simp)
         rw [if_pos c106] at H;have c106b0 : decide (x21_2 < (x120001_2.length : Int)) = true := decide_eq_true c106
         clear c106;by_cases c107 : 0 ≤ t145
         rotate_left
         ·rw [if_neg c107] at H;exact absurd H (by simp)
         rw [if_pos c107] at H;have c107b0 : decide (0 ≤ t145) = true := decide_eq_true c107
         clear c107;by_cases c108 : t145 < (x144001_2.length : Int)
         rotate_left
         ·rw [if_neg c108] at H;exact absurd H (by simp)
         rw [if_pos c108] at H;have c108b0 : decide (t145 < (x144001_2.length : Int)) = true := decide_eq_true c108
         clear c108;obtain ⟨y152, hy152⟩ : ∃ y_ : List Bool, y_ = (x144001_2.set (t145 : Int).toNat (rdOf false x120001_2 x21_2)) := ⟨_, rfl⟩
         replace H : (epitomelaw11_OverGaps.l0 kj90 (wrap64 (Int.tmod a2 64)) t105 t136 (wrap64 (x21_2 + 1)) x120000_2 x120001_2 x128000_2 x128001_2 x136000_2 x136001_2 y149 y152) = some r := by first | (rw [hy152]; with_reducible exact H) | (have H2_ := (Option.bind_some _ _).symm.trans H; rw [hy152]; with_reducible exact H2_) | (have H2_ := (Option.bind_some _ _).symm.trans H; with_reducible exact H2_) | with_reducible exact H | (rw [hy152]; exact H) | exact H
         have Ny152 := Am hy152;clear hy152;have H' := Am H
         clear H;try go_wp2
         replace HO_10 := Am (R_drew HO_10.out);replace HO_120000 := Am (Kd.V_drew HO_120000.out);replace HO_120001 := Am (Kd.V_drew HO_120001.out);replace HO_128000 := Am (Kd.V_drew HO_128000.out);replace HO_128001 := Am (Kd.V_drew HO_128001.out);replace HO_136000 := Am (Kd.V_drew HO_136000.out);replace HO_136001 := Am (Kd.V_drew HO_136001.out);replace HO_144000 := Am (R_drew HO_144000.out);replace HO_144001 := Am (R_drew HO_144001.out);replace BK119 := Am (blk_drew BK119.out);replace BK127 := Am (blk_drew BK127.out);replace BK135 := Am (blk_drew BK135.out);replace BK143 := Am (blk_drew BK143.out);replace HB := Am (below_drew1 HB.out);obtain ⟨Ao111, co111, eo111⟩ := Kd.V_slice HO_120001.out
         (first | subst eo111 | (injection eo111 with f1_ f2_ f3_; have f4_ := f1_.symm; have f5_ := f3_.symm; clear f1_ f2_ f3_; subst f4_; subst f5_))
         have p151 : 0 ≤ (x21_2 : Int) := of_decide_eq_true (by assumption)
         have q151 : x21_2 < (x120001_2.length : Int) := of_decide_eq_true (by assumption)
         obtain ⟨ad151, e151, hx151_0⟩ := Kd.at_bool (Kd.V_reads' HO_120001.out).2.2 x21_2 p151 q151
         cases e151
         replace p151 := eq_true p151;replace q151 := eq_true q151;have p109 : 0 ≤ (t145 : Int) := of_decide_eq_true (by assumption)
         have q109 : (t145 : Int) < ((x144001_2.length : Int) : Int) := of_decide_eq_true (by assumption)
         obtain ⟨go109, co109, eo109, gb109, gl109, cl109, HG109⟩ := R_form HO_144001.out (by omega)
         (first | cases eo109 | (injection eo109 with ea_ en_ ec_; (first | subst ea_ | (injection ea_ with ea_; subst ea_)); subst ec_; clear en_))
         have GB109 := Am gb109;have GG109 := Am HG109;clear gb109 gl109 HG109;obtain ⟨hx109_0, hf109_0⟩ := R_celln false HO_144001.out (t145 : Int) p109 q109
         replace p109 := eq_true p109;replace q109 := eq_true q109;have HP112 := R_putn HO_144001.out (t145 : Int) (rdOf false x120001_2 x21_2)
         rw [← Ny152.out] at HP112
         have HQ112 := Am HP112;clear HP112;refine start_ (n := 10) (S := fun w' => w'.cell? ⟨gb143, 0, none⟩ = some (.slice (some ⟨go90, 0, none⟩) y149.length co93) ∧ w'.cell? ⟨gb143, 1, none⟩ = some (.slice (some ⟨go109, 0, none⟩) x144001_2.length co109) ∧ w'.cell? ⟨gb119, 0, none⟩ = some (.slice (some ad148) x120000_2.length co94) ∧ w'.cell? ⟨gb119, 1, none⟩ = some (.slice (some ad151) x120001_2.length co111) ∧ w'.cell? (ad151.add (x21_2).toNat) = some (.bool (rdOf false x120001_2 x21_2))) (ds := [9]) #[false, false, false, false, false, false, false, false, false, false] (by kernel_rfl) rfl rfl ⟨(blk_cell BK143.out 0).trans rfl, (blk_cell BK143.out 1).trans rfl, (blk_cell BK119.out 0).trans rfl, (blk_cell BK119.out 1).trans rfl, hx151_0⟩ (fun hHeld => ?_); refine with_tabW epitomelaw11_OverGaps.tab23 epitomelaw11_OverGaps.bits23 (fun HT_ HW_ => ?_)
         generalize wc.drew = w110 at HO_10 HO_120000 HO_120001 HO_128000 HO_128001 HO_136000 HO_136001 HO_144000 HO_144001 BK119 BK127 BK135 BK143 HB GG109 HQ112 hf109_0 hx109_0 hx151_0 hHeld ⊢
         refine pure_ (i := 0) (N := some 154) (v := ?_) (a' := ?_) #[true, false, false, false, false, false, false, false, false, false] rfl rfl (any_of HT_.out (by kernel_rfl)) (fun _ _ _ h => h) (Or.inl ⟨by rfl, ?_⟩) ?_ ?_
         rotate_left
         ·intro w'
          go_simp;with_reducible rfl
         rotate_left
         ·simp only [Act.put, zS, i64_w, i32_w]
          rfl
         refine pure_ (i := 2) (N := some 156) (v := ?_) (a' := ?_) #[true, false, true, false, false, false, false, false, false, false] rfl rfl (any_of HT_.out (by kernel_rfl)) (fun _ _ _ h => h) (Or.inl ⟨by rfl, ?_⟩) ?_ ?_
         rotate_left
         ·intro w'
          go_simp;with_reducible rfl
         rotate_left
         ·simp only [Act.put, zS, i64_w, i32_w]
          rfl
         refine pure_ (i := 3) (N := some 157) (v := ?_) (a' := ?_) #[true, false, true, true, false, false, false, false, false, false] rfl rfl (any_of HT_.out (by kernel_rfl)) (fun _ _ _ h => h) (Or.inl ⟨by rfl, ?_⟩) ?_ ?_
         rotate_left
         ·intro w'
          go_simp;with_reducible rfl
         rotate_left
         ·simp only [Act.put, zS, i64_w, i32_w]
          rfl
         refine pure_ (i := 5) (N := some 159) (v := ?_) (a' := ?_) #[true, false, true, true, false, true, false, false, false, false] rfl rfl (any_of HT_.out (by kernel_rfl)) (fun _ _ _ h => h) (Or.inl ⟨by rfl, ?_⟩) ?_ ?_
         rotate_left
         ·intro w'
          go_simp;with_reducible rfl
         rotate_left
         ·simp only [Act.put, zS, i64_w, i32_w]
          rfl
         refine take_ (i := 1) (N := some 155) (v := ?_) (a' := ?_) #[true, true, true, true, false, true, false, false, false, false] rfl rfl (take_ofW HT_.out HW_.out (by kernel_rfl)) (fun _ _ _ h => h) (Or.inl ⟨by rfl, ?_⟩) hHeld ?_ ?_
         rotate_left
         ·rintro w' ⟨s0, s1, s2, s3, s4⟩
          go_simp;with_reducible rfl
         rotate_left
         ·simp only [Act.put, zS, i64_w, i32_w]
          rfl
         refine take_ (i := 4) (N := some 158) (v := ?_) (a' := ?_) #[true, true, true, true, true, true, false, false, false, false] rfl rfl (take_ofW HT_.out HW_.out (by kernel_rfl)) (fun _ _ _ h => h) (Or.inl ⟨by rfl, ?_⟩) hHeld ?_ ?_
         rotate_left
         ·rintro w' ⟨s0, s1, s2, s3, s4⟩
          go_simp;with_reducible rfl
         rotate_left
         ·simp only [Act.put, zS, i64_w, i32_w]
          rfl
         refine pure_ (i := 6) (N := some 160) (v := ?_) (a' := ?_) #[true, true, true, true, true, true, true, false, false, false] rfl rfl (any_of HT_.out (by kernel_rfl)) (fun _ _ _ h => h) (Or.inl ⟨by rfl, ?_⟩) ?_ ?_
         rotate_left
         ·intro w'
          go_simp;with_reducible rfl
         rotate_left
         ·simp only [Act.put, zS, i64_w, i32_w]
          rfl
         refine take_ (i := 7) (N := some 161) (v := ?_) (a' := ?_) #[true, true, true, true, true, true, true, true, false, false] rfl rfl (take_ofW HT_.out HW_.out (by kernel_rfl)) (fun _ _ _ h => h) (Or.inl ⟨by rfl, ?_⟩) hHeld ?_ ?_
         rotate_left
         ·rintro w' ⟨s0, s1, s2, s3, s4⟩
          go_simp;with_reducible rfl
         rotate_left
         ·simp only [Act.put, zS, i64_w, i32_w]
          rfl
         refine pure_ (i := 8) (N := some 162) (v := ?_) (a' := ?_) #[true, true, true, true, true, true, true, true, true, false] rfl rfl (any_of HT_.out (by kernel_rfl)) (fun _ _ _ h => h) (Or.inl ⟨by rfl, ?_⟩) ?_ ?_
         rotate_left
         ·intro w'
          go_simp;with_reducible rfl
         rotate_left
         ·simp only [Act.put, zS, i64_w, i32_w]
          rfl
         refine last_ (i := 9) (N := none) #[true, true, true, true, true, true, true, true, true, true] rfl rfl (one_of HT_.out (by kernel_rfl)) (by decide) (fun K hK => ?_)
         refine skip_ (w1 := ?_) (by rfl) rfl ?_ ?_
         rotate_left
         ·go_simp;rfl
         refine hK.out _ _ ?_
         clear hK K;refine done_ (done_of HT_.out (by kernel_rfl)) ?_
         try go_wp2
         (try simp only [← hl144000_90])
         go_roundg kj90
         case measure => have := HJ10.out; have := HK2.out; have := HJ79.out; have := HJ90.out; omega
         case rel => exact ⟨(wrap64 (x21_2 + 1)), (x120000_2), (x120001_2), (x128000_2), (x128001_2), (x136000_2), (x136001_2), (y149), (y152), (.slice (some ad148) x120000_2.length co94), (.slice (some ad151) x120001_2.length co111), (u128000), (u128001), (u136000), (u136001), (.slice (some ⟨go90, 0, none⟩) y149.length co93), (.slice (some ⟨go109, 0, none⟩) x144001_2.length co109), zG, H', ⟨by have := HJ10.out; have := HK2.out; have := HJ79.out; have := HJ90.out; omega⟩, ⟨by (try simp only [hl144000_90]); (with_reducible repeat (first | apply zA.a | apply zA.n | apply zA.d)); exact R_mono (R_far (p := ⟨go109, (t145 : Int).toNat, none⟩) (R_types HO_10.out GG109.out (by decide)) (fun _ hk => hk.2) (.bool (rdOf false x120001_2 x21_2))) (fun _ hk => trivial)⟩, ⟨by (try simp only [hl144000_90]); (with_reducible repeat (first | apply Kd.V_alloc | apply Kd.V_drewN | apply Kd.V_drew)); exact Kd.V_mono (Kd.V_far (p := ⟨go109, (t145 : Int).toNat, none⟩) (Kd.V_mono HO_120000.out (fun k_ hk => (⟨hk, fun e_ => hk.2.2.1 (by rw [e_]; rfl)⟩ : _ ∧ k_ ≠ go109))) (fun _ hk => hk.2) (.bool (rdOf false x120001_2 x21_2))) zp⟩, ⟨by (try simp only [hl144000_90]); (with_reducible repeat (first | apply Kd.V_alloc | apply Kd.V_drewN | apply Kd.V_drew)); exact Kd.V_mono (Kd.V_far (p := ⟨go109, (t145 : Int).toNat, none⟩) (Kd.V_mono HO_120001.out (fun k_ hk => (⟨hk, fun e_ => hk.2.2.1 (by rw [e_]; rfl)⟩ : _ ∧ k_ ≠ go109))) (fun _ hk => hk.2) (.bool (rdOf false x120001_2 x21_2))) zp⟩, ⟨by (try simp only [hl144000_90]); (with_reducible repeat (first | apply Kd.V_alloc | apply Kd.V_drewN | apply Kd.V_drew)); exact Kd.V_mono (Kd.V_far (p := ⟨go109, (t145 : Int).toNat, none⟩) (Kd.V_mono HO_128000.out (fun k_ hk => (⟨hk, fun e_ => hk.2.2.1 (by rw [e_]; rfl)⟩ : _ ∧ k_ ≠ go109))) (fun _ hk => hk.2) (.bool (rdOf false x120001_2 x21_2))) zp⟩, ⟨by (try simp only [hl144000_90]); (with_reducible repeat (first | apply Kd.V_alloc | apply Kd.V_drewN | apply Kd.V_drew)); exact Kd.V_mono (Kd.V_far (p := ⟨go109, (t145 : Int).toNat, none⟩) (Kd.V_mono HO_128001.out (fun k_ hk => (⟨hk, fun e_ => hk.2.2.1 (by rw [e_]; rfl)⟩ : _ ∧ k_ ≠ go109))) (fun _ hk => hk.2) (.bool (rdOf false x120001_2 x21_2))) zp⟩, ⟨by (try simp only [hl144000_90]); (with_reducible repeat (first | apply Kd.V_alloc | apply Kd.V_drewN | apply Kd.V_drew)); exact Kd.V_mono (Kd.V_far (p := ⟨go109, (t145 : Int).toNat, none⟩) (Kd.V_mono HO_136000.out (fun k_ hk => (⟨hk, fun e_ => hk.2.2.1 (by rw [e_]; rfl)⟩ : _ ∧ k_ ≠ go109))) (fun _ hk => hk.2) (.bool (rdOf false x120001_2 x21_2))) zp⟩, ⟨by (try simp only [hl144000_90]); (with_reducible repeat (first | apply Kd.V_alloc | apply Kd.V_drewN | apply Kd.V_drew)); exact Kd.V_mono (Kd.V_far (p := ⟨go109, (t145 : Int).toNat, none⟩) (Kd.V_mono HO_136001.out (fun k_ hk => (⟨hk, fun e_ => hk.2.2.1 (by rw [e_]; rfl)⟩ : _ ∧ k_ ≠ go109))) (fun _ hk => hk.2) (.bool (rdOf false x120001_2 x21_2))) zp⟩, ⟨by (try simp only [hl144000_90]); (with_reducible repeat (first | apply zA.a | apply zA.n | apply zA.d)); exact R_mono (R_far (p := ⟨go109, (t145 : Int).toNat, none⟩) (R_types HO_144000.out GG109.out (by decide)) (fun _ hk => hk.2) (.bool (rdOf false x120001_2 x21_2))) (fun _ hk => trivial)⟩, ⟨by (try simp only [hl144000_90]); (with_reducible repeat (first | apply zA.a | apply zA.n | apply zA.d)); exact HQ112.out⟩, ⟨by (try simp only [hl144000_90]); (with_reducible repeat (first | refine zA.f ?_ _ | refine zA.g ?_ | refine zA.h ?_ _)); refine blk_far ?_ (by have h_ := R_ne HO_144001.out BK119.out (by decide); intro e_; exact h_ (by rw [e_]; rfl)) _; (with_reducible repeat (first | refine zA.f ?_ _ | refine zA.g ?_ | refine zA.h ?_ _)); exact BK119.out⟩, ⟨by (try simp only [hl144000_90]); (with_reducible repeat (first | refine zA.f ?_ _ | refine zA.g ?_ | refine zA.h ?_ _)); refine blk_far ?_ (by have h_ := R_ne HO_144001.out BK127.out (by decide); intro e_; exact h_ (by rw [e_]; rfl)) _; (with_reducible repeat (first | refine zA.f ?_ _ | refine zA.g ?_ | refine zA.h ?_ _)); exact BK127.out⟩, ⟨by (try simp only [hl144000_90]); (with_reducible repeat (first | refine zA.f ?_ _ | refine zA.g ?_ | refine zA.h ?_ _)); refine blk_far ?_ (by have h_ := R_ne HO_144001.out BK135.out (by decide); intro e_; exact h_ (by rw [e_]; rfl)) _; (with_reducible repeat (first | refine zA.f ?_ _ | refine zA.g ?_ | refine zA.h ?_ _)); exact BK135.out⟩, ⟨by (try simp only [hl144000_90]); (with_reducible repeat (first | refine zA.f ?_ _ | refine zA.g ?_ | refine zA.h ?_ _)); refine blk_far ?_ (by have h_ := R_ne HO_144001.out BK143.out (by decide); intro e_; exact h_ (by rw [e_]; rfl)) _; (with_reducible repeat (first | refine zA.f ?_ _ | refine zA.g ?_ | refine zA.h ?_ _)); exact BK143.out⟩, ⟨by repeat (first | (with_reducible first | exact HB.out | apply zA.b | apply zA.w | apply zA.e | refine zA.s ?_ GB109.out | refine zA.s ?_ GE119.out | refine zA.s ?_ GE127.out | refine zA.s ?_ GE135.out | refine zA.s ?_ GE143.out) | exact HB.out)⟩⟩
end Go.Proofs.YtkefbljogjcodaaDoor.F
end
