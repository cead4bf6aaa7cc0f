import Derived.Test.YtekjfodfedpioaaDoorKCGC
import Derived.Below
import Derived.Deep.Draws
import Derived.Deep.AppendLies
import Derived.Maps.AppendAt
import Derived.OwnWalk
import Derived.Laws.BytesArg
import Derived.Laws.MakeOwn
import Derived.Laws.OwnMore
import Derived.Deep.OwnRows
import Derived.Tactics
import Derived.Lib.ConvBytes
import Derived.Laws.Slices
import Derived.WalkKit
import Derived.KernelRfl
import Derived.RowKit3
import Derived.Deep.LoopGhost
import Derived.Deep.QuietTactic
import Derived.BigQuiet
import Derived.WideLaws
import Derived.Deep.DeepCutAuto
import Derived.Deep.CutBlock
import Derived.Deep.RegionHeld3
import Derived.Laws.Rows
import Derived.Lib.AppendStr
import Derived.ArgAppend
import Derived.Laws.IdiomCopy
import Derived.RowKit
import Derived.OrdersHeld
import Derived.Laws.BitsLemmas
import Derived.Laws.StructEq
import Derived.Test.YtekjfodfedpioaaDoorProg
import Derived.Handy
import Derived.Shelf.Unicode.DecodeSlow
import Derived.Ground.NamesProg
import Derived.Shelf.Unicode.ValidAny
import Derived.Laws.RangeString
import Derived.Laws.RangeAny
import Derived.Lib.RuneCount
import Derived.Laws.IdiomStrings
import Derived.Laws.Cover4
import Derived.Great.BuildSlice
import Derived.RangeFuncNested
import Derived.RangeFuncBound
import Derived.RangeFuncCalls
import Derived.RangeFuncLeaves
import Derived.Shelf.Abstract
import Derived.Shelf.RegionOpen
import Derived.OwnWalkIn
import Derived.TacticsInMore
import Derived.LoopNIn
import Derived.LoopIn
section
namespace Go.Proofs.YtekjfodfedpioaaDoor.F
open Go.RowKit Go.Proofs.YtekjfodfedpioaaDoorW.PrintWords Go.Proofs.YtekjfodfedpioaaDoorW.PrintLast Go.Proofs.YtekjfodfedpioaaDoorW.PrintMore
set_option linter.unusedVariables false
set_option linter.unusedSimpArgs false
open Go.Shelf
attribute [local go_sem] Oper.semAt_some max2_int min2_int max_two min_two
theorem three_new (w : World) (t1 t2 t3 : TypeId) (v1 v2 v3 : Value) : Boxed (((w.alloc (.cells #[v1] t1)).alloc (.cells #[v2] t2)).alloc (.cells #[v3] t3)) w.heap.size t1 v1 ∧ Boxed (((w.alloc (.cells #[v1] t1)).alloc (.cells #[v2] t2)).alloc (.cells #[v3] t3)) (w.heap.size + 1) t2 v2 ∧
    Boxed (((w.alloc (.cells #[v1] t1)).alloc (.cells #[v2] t2)).alloc (.cells #[v3] t3)) (w.heap.size + 2) t3 v3 ∧ Below w.heap.size w (((w.alloc (.cells #[v1] t1)).alloc (.cells #[v2] t2)).alloc (.cells #[v3] t3)) := by
  refine ⟨((Boxed.new w t1 v1).alloc _).alloc _, ?_, ?_, below_alloc (below_alloc (below_alloc (Below.refl _ _) _) _) _⟩
  · have := (Boxed.new (w.alloc (.cells #[v1] t1)) t2 v2).alloc (.cells #[v3] t3)
    rwa [World.size_alloc] at this
  · have := Boxed.new ((w.alloc (.cells #[v1] t1)).alloc (.cells #[v2] t2)) t3 v3
    rwa [World.size_alloc, World.size_alloc] at this
structure LsB (w : World) (gap v e : Int) (W : World) : Prop where
  g : Boxed W w.heap.size 3 (.int .i64 gap)
  v : Boxed W (w.heap.size + 1) 3 (.int .i64 v)
  e : Boxed W (w.heap.size + 2) 26 (.int .i64 e)
  b : Below w.heap.size w W
theorem LsB.new (w : World) (gap : Int) : LsB w gap 0 0 (((w.alloc (.cells #[.int .i64 gap] 3)).alloc (.cells #[.int .i64 0] 3)).alloc (.cells #[.int .i64 0] 26)) := by
  obtain ⟨h1, h2, h3, h4⟩ := three_new w 3 3 26 (.int .i64 gap) (.int .i64 0) (.int .i64 0)
  exact ⟨h1, h2, h3, h4⟩
theorem LsB.more {w W W' : World} {gap v e : Int} (h : LsB w gap v e W) (hb : Below W.heap.size W W') : LsB w gap v e W' := ⟨box_below h.g hb, box_below h.v hb, box_below h.e hb, below_step h.b hb⟩
theorem LsB.drew {w W : World} {gap v e : Int} (h : LsB w gap v e W) : LsB w gap v e W.drew := ⟨blk_drew h.g, blk_drew h.v, blk_drew h.e, below_drew1 h.b⟩
theorem LsB.setV {w W : World} {gap v e : Int} (h : LsB w gap v e W) (z : Int) : LsB w gap z e (W.setCell ⟨w.heap.size + 1, 0, none⟩ (.int .i64 z)) :=
  ⟨h.g.other (by omega) _, h.v.set _, h.e.other (by omega) _, h.b.setCell (p := ⟨w.heap.size + 1, 0, none⟩) (by show w.heap.size ≤ w.heap.size + 1; omega) _⟩
theorem LsB.setE {w W : World} {gap v e : Int} (h : LsB w gap v e W) (z : Int) : LsB w gap v z (W.setCell ⟨w.heap.size + 2, 0, none⟩ (.int .i64 z)) :=
  ⟨h.g.other (by omega) _, h.v.other (by omega) _, h.e.set _, h.b.setCell (p := ⟨w.heap.size + 2, 0, none⟩) (by show w.heap.size ≤ w.heap.size + 2; omega) _⟩
theorem LsB.cells {w W : World} {gap v e : Int} (h : LsB w gap v e W) : W.cell? ⟨w.heap.size, 0, none⟩ = some (.int .i64 gap) ∧ W.cell? ⟨w.heap.size + 1, 0, none⟩ = some (.int .i64 v) ∧ W.cell? ⟨w.heap.size + 2, 0, none⟩ = some (.int .i64 e) ∧ W.frozen? ⟨w.heap.size + 1, 0, none⟩ = false ∧ W.frozen? ⟨w.heap.size + 2, 0, none⟩ = false :=
  ⟨h.g.cell, h.v.cell, h.e.cell, h.v.frozen, h.e.frozen⟩
set_option maxHeartbeats 4000000 in
theorem place_Least_bad (k : Nat) (A0 : Option Addr) (c0 : Nat) (l0 : List S55) (a1 e : Int) (he : e ≠ 0) (w : World) (hG : Glob w) (hr0 : Kd.C k55 w A0 l0.length l0) (hc0 : l0.length ≤ c0) (h : op_May.f k l0 = some e) :
    Calls Tryd.prog 15 #[.slice A0 l0.length c0, .int .i64 a1] w fun e2 w' => e2 = .returned (.tuple #[.int .i64 0, .int .i64 e]) ∧ Below w.heap.size w w' := by
  have HG := Aside0.mk hG
  have HR0 := Aside0.mk hr0
  have HC0 := Aside0.mk hc0
  have H := Aside0.mk h
  have d0 : (e != 0) = true := by simp [he]
  have B0 := Aside0.mk (LsB.new w a1)
  clear hG hr0 hc0 h he
  go_enter Tryd.func15, Tryd.ntmps15
  go_wp2_with ((go_at_call 39; (with_reducible refine (op_May.calls k _ _ l0 e _ (HG.out.below B0.out.b) (Kd.C_below HR0.out B0.out.b) HC0.out H.out).mono ?_); rintro e2 w1 ⟨rfl, hb⟩; have B1 := Aside0.mk (B0.out.more hb); obtain ⟨q0, q1, q2, q3, q4⟩ := B1.out.cells; clear hb))
  have B2 := Aside0.mk ((B1.out.setV 0).setE e)
  obtain ⟨p0, p1, p2, p3, p4⟩ := B2.out.cells
  exact bodyPost_ret (v := .tuple #[.int .i64 0, .int .i64 e]) (by simp [results, Tryd.results15, Tryd.f15, go_sem, p1, p2]) rfl ⟨rfl, B2.out.b⟩
set_option maxHeartbeats 4000000 in
theorem place_Least_low (k : Nat) (A0 : Option Addr) (c0 : Nat) (l0 : List S55) (a1 : Int) (ha : a1 < 0) (w : World) (hG : Glob w) (hr0 : Kd.C k55 w A0 l0.length l0) (hc0 : l0.length ≤ c0) (h : op_May.f k l0 = some 0) :
    Calls Tryd.prog 15 #[.slice A0 l0.length c0, .int .i64 a1] w fun e2 w' => e2 = .returned (.tuple #[.int .i64 0, .int .i64 6]) ∧ Below w.heap.size w w' := by
  have HG := Aside0.mk hG
  have HR0 := Aside0.mk hr0
  have HC0 := Aside0.mk hc0
  have H := Aside0.mk h
  have d0 : decide (a1 < 0) = true := decide_eq_true ha
  have B0 := Aside0.mk (LsB.new w a1)
  clear hG hr0 hc0 h ha
  go_enter Tryd.func15, Tryd.ntmps15
  go_wp2_with ((go_at_call 39; (with_reducible refine (op_May.calls k _ _ l0 0 _ (HG.out.below B0.out.b) (Kd.C_below HR0.out B0.out.b) HC0.out H.out).mono ?_); rintro e2 w1 ⟨rfl, hb⟩; have B1 := Aside0.mk (B0.out.more hb); obtain ⟨q0, q1, q2, q3, q4⟩ := B1.out.cells; clear hb))
  go_region
  go_wp2
  have B2 := Aside0.mk (((B1.out.setV 0).setE 6).drew)
  obtain ⟨p0, p1, p2, p3, p4⟩ := B2.out.cells
  exact bodyPost_ret (v := .tuple #[.int .i64 0, .int .i64 6]) (by simp [results, Tryd.results15, Tryd.f15, go_sem, p1, p2]) rfl ⟨rfl, B2.out.b⟩
set_option maxHeartbeats 4000000 in
theorem place_Least_high (k : Nat) (A0 : Option Addr) (c0 : Nat) (l0 : List S55) (a1 n : Int) (ha : 0 ≤ a1) (hn : n < a1) (w : World) (hG : Glob w) (hr0 : Kd.C k55 w A0 l0.length l0) (hc0 : l0.length ≤ c0) (h : op_May.f k l0 = some 0) (h2 : op_Out.f k l0 = some n) :
    Calls Tryd.prog 15 #[.slice A0 l0.length c0, .int .i64 a1] w fun e2 w' => e2 = .returned (.tuple #[.int .i64 0, .int .i64 6]) ∧ Below w.heap.size w w' := by
  have HG := Aside0.mk hG
  have HR0 := Aside0.mk hr0
  have HC0 := Aside0.mk hc0
  have H := Aside0.mk h
  have H2 := Aside0.mk h2
  have d0 : decide (a1 < 0) = false := decide_eq_false (by omega)
  have d1 : decide (n < a1) = true := decide_eq_true hn
  have B0 := Aside0.mk (LsB.new w a1)
  clear hG hr0 hc0 h h2 ha hn
  go_enter Tryd.func15, Tryd.ntmps15
  go_wp2_with ((go_at_call 39; (with_reducible refine (op_May.calls k _ _ l0 0 _ (HG.out.below B0.out.b) (Kd.C_below HR0.out B0.out.b) HC0.out H.out).mono ?_); rintro e2 w1 ⟨rfl, hb⟩; have B1 := Aside0.mk (B0.out.more hb); obtain ⟨q0, q1, q2, q3, q4⟩ := B1.out.cells; clear hb))
  have BD := Aside0.mk B1.out.drew
  go_region_with (first | (go_at_call 11; (with_reducible refine (op_Out.calls k _ _ l0 n _ (HG.out.below BD.out.b) (Kd.C_below HR0.out BD.out.b) HC0.out H2.out).mono ?_); rintro e3 w2 ⟨rfl, hb⟩; have B2 := Aside0.mk (BD.out.more hb); obtain ⟨r0, r1, r2, r3, r4⟩ := B2.out.cells; clear hb))
  all_goals
    go_wp2
    have B3 := Aside0.mk ((B2.out.setV 0).setE 6)
    obtain ⟨p0, p1, p2, p3, p4⟩ := B3.out.cells
    exact bodyPost_ret (v := .tuple #[.int .i64 0, .int .i64 6]) (by simp [results, Tryd.results15, Tryd.f15, go_sem, p1, p2]) rfl ⟨rfl, B3.out.b⟩
theorem leastS_stop (gap : Int) : ∀ (pre : List St) (x : St) (r : List St), (∀ y ∈ pre, wrap64 (y.o + outS y.s) < gap) → ¬ wrap64 (x.o + outS x.s) < gap → leastS gap (pre ++ x :: r) = if x.s.f0 = 1 then wrap64 (x.i + mx (wrap64 (gap - x.o)) 0) else x.i
  | [], x, r, _, hx => by
    show (if wrap64 (x.o + outS x.s) < gap then _ else _) = _
    rw [if_neg hx]
  | y :: pre, x, r, h, hx => by
    show (if wrap64 (y.o + outS y.s) < gap then _ else _) = _
    rw [if_pos (h y (by simp))]
    exact leastS_stop gap pre x r (fun z hz => h z (by simp [hz])) hx
theorem leastS_all (gap : Int) : ∀ (pre : List St), (∀ y ∈ pre, wrap64 (y.o + outS y.s) < gap) → leastS gap pre = 0
  | [], _ => rfl
  | y :: pre, h => by
    show (if wrap64 (y.o + outS y.s) < gap then _ else _) = _
    rw [if_pos (h y (by simp)), leastS_all gap pre (fun z hz => h z (by simp [hz]))]
def LsI (w : World) (gap : Int) (pre : List St) (W : World) : Prop := LsB w gap 0 0 W ∧ (∀ y ∈ pre, wrap64 (y.o + outS y.s) < gap)
def LsX (w : World) (gap : Int) (c : Code) (pre : List St) (W : World) : Prop := c = .ret ∧ ∃ ini x, pre = ini ++ [x] ∧ (∀ y ∈ ini, wrap64 (y.o + outS y.s) < gap) ∧ ¬ wrap64 (x.o + outS x.s) < gap ∧ LsB w gap (if x.s.f0 = 1 then wrap64 (x.i + mx (wrap64 (gap - x.o)) 0) else x.i) 0 W
theorem LsB.own {β : Type} (w : World) (gap v e : Int) {B : Nat} (hB : w.heap.size ≤ B) : OwnFrom B (fun (_ : β) W => LsB w gap v e W) := fun s X Y row hs hg hr =>
  ⟨boxed_own w.heap.size 3 (fun (_ : Unit) => Value.int .i64 gap) () X Y row hs.g hg (fun r e => (hr r e).2), boxed_own (w.heap.size + 1) 3 (fun (_ : Unit) => Value.int .i64 v) () X Y row hs.v hg (fun r e => (hr r e).2), boxed_own (w.heap.size + 2) 26 (fun (_ : Unit) => Value.int .i64 e) () X Y row hs.e hg (fun r e => (hr r e).2), ownFrom_below (β := Unit) (Nat.le_refl _) hB () X Y row hs.b hg hr⟩
theorem LsI.own (w : World) (gap : Int) {B : Nat} (hB : w.heap.size ≤ B) : OwnFrom B (LsI w gap) := OwnFrom.and (LsB.own w gap 0 0 hB) (ownFrom_pure _ _)
theorem LsX.own (w : World) (gap : Int) (c : Code) {B : Nat} (hB : w.heap.size ≤ B) : OwnFrom B (LsX w gap c) := fun pre X Y row hs hg hr => by
  obtain ⟨hc, ini, x, e1, e2, e3, hb⟩ := hs
  exact ⟨hc, ini, x, e1, e2, e3, LsB.own (β := Unit) w gap _ 0 hB () X Y row hb hg hr⟩
theorem LsB.bounds {w W : World} {gap v e : Int} (h : LsB w gap v e W) : w.heap.size + 2 < W.heap.size := h.e.lt
set_option maxRecDepth 100000 in
set_option maxHeartbeats 40000000 in
theorem place_Least_main (k : Nat) (A0 : Option Addr) (c0 : Nat) (l0 : List S55) (a1 n : Int) (ha : 0 ≤ a1) (hn : a1 ≤ n) (w : World) (hG : Glob w) (hr0 : Kd.C k55 w A0 l0.length l0) (hc0 : l0.length ≤ c0) (hok : stepsOk l0 = true) (h : op_May.f k l0 = some 0) (h2 : op_Out.f k l0 = some n) :
    Calls Tryd.prog 15 #[.slice A0 l0.length c0, .int .i64 a1] w fun e2 w' => e2 = .returned (.tuple #[.int .i64 (leastS a1 (stepsL l0 0 0)), .int .i64 0]) ∧ Below w.heap.size w w' := by
  have HG := Aside0.mk hG
  have HR0 := Aside0.mk hr0
  have HC0 := Aside0.mk hc0
  have H := Aside0.mk h
  have H2 := Aside0.mk h2
  have HOK := Aside0.mk hok
  have d0 : decide (a1 < 0) = false := decide_eq_false (by omega)
  have d1 : decide (n < a1) = false := decide_eq_false (by omega)
  have B0 := Aside0.mk (LsB.new w a1)
  clear hG hr0 hc0 h h2 ha hn hok
  refine (callsIn_wide (n := 6)).1 ?_
  refine callsIn_of_wp_marks Tryd.func15 rfl trivial ?_ rfl
  refine wp_quiet (wpIn_wide.2 ?_)
  simp only [Tryd.ntmps15, List.size_toArray, List.length_cons, List.length_nil, Nat.reduceAdd, Nat.reduceSub, Array.replicate_succ, Array.replicate_zero, List.push_toArray, List.append_toArray, List.nil_append, List.cons_append]
  go_wp2_with ((go_at_call 39; (with_reducible refine (op_May.calls k _ _ l0 0 _ (HG.out.below B0.out.b) (Kd.C_below HR0.out B0.out.b) HC0.out H.out).mono ?_); rintro e2 w1 ⟨rfl, hb⟩; have B1 := Aside0.mk (B0.out.more hb); obtain ⟨q0, q1, q2, q3, q4⟩ := B1.out.cells; clear hb))
  have BD := Aside0.mk B1.out.drew
  rename_i K1 hK1
  have key : ∀ w2 : World, Aside0 (LsB w a1 0 0 w2) → K1
      { tmps := #[.slice A0 l0.length c0, .int .i64 a1, undef, .pointer (some ⟨w.heap.size, 0, none⟩), .pointer (some ⟨w.heap.size + 1, 0, none⟩), .pointer (some ⟨w.heap.size + 1 + 1, 0, none⟩), .int .i64 0, undef,
        .slice A0 l0.length c0, .int .i64 0, .int .i64 0, .bool false, undef, .int .i64 a1, .bool false, .bool false, .int .i64 a1, .slice A0 l0.length c0, .int .i64 n, .bool false, .bool false, undef, undef,
        undef, undef, undef, undef, undef, undef, undef, undef, undef, undef, undef, undef, undef, undef, undef, undef, undef, undef, undef, undef, undef, undef, undef], defers := [] } w2 := by
    intro w2 B2
    refine hK1 _ _ ?_
    clear hK1 K1
    obtain ⟨r0, r1, r2, r3, r4⟩ := B2.out.cells
    go_wp2_with (go_at_call 46; (with_reducible refine (steps.calls _ _ _ _).mono ?_); rintro e4 w4 ⟨rfl, rfl⟩)
    have BS3 := Boxed.new w2 22 (.slice A0 l0.length c0)
    have B3 := Aside0.mk (B2.out.more (below_alloc (Below.refl _ _) (.cells #[.slice A0 l0.length c0] 22)))
    have hsz : (w2.alloc (.cells #[.slice A0 l0.length c0] 22)).heap.size = w2.heap.size + 1 := by simp
    have hgs := B2.out.bounds
    obtain ⟨W0, hW0⟩ : ∃ W0, w2.alloc (.cells #[.slice A0 l0.length c0] 22) = W0 := ⟨_, rfl⟩
    rw [hW0] at BS3 B3 hsz ⊢
    clear hW0 q0 q1 q2 q3 q4 r0 r1 r2 r3 r4 d0 d1
    refine (wpIn_wide (n := 6)).1 ?_
    refine wpIn_rangeFunc_ownH rfl (by omega) (gf := 72) (lb := #[.pointer (some ⟨w2.heap.size, 0, none⟩)]) rfl trivial (enters_of Tryd.func72 (by kernel_rfl) rfl)
      (steps_stops 5 (by omega) w2.heap.size (w2.heap.size + 1) A0 c0 l0 w W0 HG.out HR0.out HOK.out B3.out.b (by omega) (by omega) BS3.cell) (fun h k => h.trans k) (KpS.put (by omega)) (Below.refl _ _) (fun _ => rfl)
      (LsI w a1) (LsX w a1) (LsI.own _ _ (by omega)) (fun c => LsX.own _ _ c (by omega)) ⟨B3.out, fun y hy => by cases hy⟩
      (fun x a' W => ∃ Bx, w.heap.size + 2 < Bx ∧ Boxed5 W Bx x ∧ a' = { tmps := #[.slice A0 l0.length c0, .int .i64 a1, undef, .pointer (some ⟨w.heap.size, 0, none⟩), .pointer (some ⟨w.heap.size + 1, 0, none⟩), .pointer (some ⟨w.heap.size + 1 + 1, 0, none⟩), .int .i64 0, .pointer (some ⟨Bx, 0, none⟩),
        .slice A0 l0.length c0, .int .i64 0, .int .i64 0, .bool false, undef, .int .i64 a1, .bool false, .bool false, .int .i64 a1, .slice A0 l0.length c0, .int .i64 n, .bool false, .bool false, .slice A0 l0.length c0, .func (.func 72) #[] #[.pointer (some ⟨w2.heap.size, 0, none⟩)],
        encSt x, undef, undef, undef, undef, undef, undef, undef, undef, undef, undef, undef, undef, undef, undef, undef, undef, undef, undef, undef, undef, undef, undef], defers := [] })
      (fun x a' _ X Y row hs hg hr => by obtain ⟨Bx, h1, h2, h3⟩ := hs; exact ⟨Bx, h1, boxed5_own Bx x () X Y row h2 hg (fun r e => (hr r e).2), h3⟩)
      ?assign ?body ?done ?stop
    case assign =>
      rintro l pre x W K ⟨hB, hP⟩ hK
      dsimp only [encSt] at hK ⊢
      gi_wp2
      exact hK _ _ ((KeepsOthers.alloc _ _).from _) (KpS.more (below_alloc (Below.refl _ _) _) hB.b.size) ⟨hB.more (below_alloc (Below.refl _ _) _), hP⟩ ⟨W.heap.size, hB.bounds, blk_new W _, rfl⟩
    case body =>
      rintro l pre x a' W hl ⟨r, hr⟩ ⟨hB, hP⟩ ⟨Bx, hBx, bX, rfl⟩ hlt
      have BB := Aside0.mk hB
      have PP := Aside0.mk hP
      have hbs := hB.b.size
      have hmix : Tryd.prog.follows .mixedOrders = true := by kernel_rfl
      have HXO := Aside0.mk (some_out x.h)
      have hx2 : 1 ≤ 6 - 1 - 1 := by decide
      have BBD := Aside0.mk hB.drew
      have BXD : Aside0 (Boxed5 W.drew Bx x) := ⟨blk_drew bX⟩
      obtain ⟨q0, q1, q2, q3, q4⟩ := hB.cells
      have cx0 := (blk_cell bX 0).trans (show _ = some (Value.int .i64 x.s.f0) from rfl)
      have cx1 := (blk_cell bX 1).trans (show _ = some (Value.int .i64 x.s.f1) from rfl)
      have cx2 := (blk_cell bX 2).trans (show _ = some (Value.string x.s.f2) from rfl)
      have cx3 := (blk_cell bX 3).trans (show _ = some (Value.int .i64 x.i) from rfl)
      have cx4 := (blk_cell bX 4).trans (show _ = some (Value.int .i64 x.o) from rfl)
      clear bX hP hB hr hlt
      dsimp only [encSt]
      gi_wp2
      rename_i Ka hKa Kb hKb
      have key : ∀ W3 : World, Aside0 (LsB w a1 0 0 W3) → Aside0 (Boxed5 W3 Bx x) → Aside0 (Below W.drew.heap.size W.drew W3) → ∀ bb : Bool, Aside0 (bb = decide (IntKind.i64.wrap (x.o + outS x.s) < a1)) → Kb
        { tmps := #[.slice A0 l0.length c0, .int .i64 a1, undef, .pointer (some ⟨w.heap.size, 0, none⟩), .pointer (some ⟨w.heap.size + 1, 0, none⟩), .pointer (some ⟨w.heap.size + 1 + 1, 0, none⟩), .int .i64 0, .pointer (some ⟨Bx, 0, none⟩),
        .slice A0 l0.length c0, .int .i64 0, .int .i64 0, .bool false, undef, .int .i64 a1, .bool false, .bool false, .int .i64 a1, .slice A0 l0.length c0, .int .i64 n, .bool false, .bool false, .slice A0 l0.length c0, .func (.func 72) #[] #[.pointer (some ⟨w2.heap.size, 0, none⟩)],
        .agg #[.int .i64 x.s.f0, .int .i64 x.s.f1, .string x.s.f2, .int .i64 x.i, .int .i64 x.o], .pointer (some ⟨Bx, 4, none⟩), .int .i64 x.o, .pointer (some ⟨Bx, 0, none⟩), .agg #[.int .i64 x.s.f0, .int .i64 x.s.f1, .string x.s.f2], .int .i64 (outS x.s), .int .i64 (IntKind.i64.wrap (x.o + outS x.s)), .int .i64 a1, .bool bb,
        undef, undef, undef, undef, undef, undef, undef, undef, undef, undef, undef, undef, undef, undef], defers := [] } W3 := by
        intro W3 B5 BX5 HB5 bb HBB
        refine hKb _ _ ?_
        clear hKb Kb cx0 cx1 cx2 cx3 cx4 q0 q1 q2 q3 q4
        obtain ⟨r0, r1, r2, r3, r4⟩ := B5.out.cells
        have cx0 := (blk_cell BX5.out 0).trans (show _ = some (Value.int .i64 x.s.f0) from rfl)
        have cx3 := (blk_cell BX5.out 3).trans (show _ = some (Value.int .i64 x.i) from rfl)
        have cx4 := (blk_cell BX5.out 4).trans (show _ = some (Value.int .i64 x.o) from rfl)
        have hkp : Aside0 (KpS w.heap.size (w2.heap.size + 1) W W3) := ⟨KpS.more (Below.trans (below_drew1 (Below.refl _ _)) HB5.out) hbs⟩
        have hkf : Aside0 (KeepsFrom W0.heap.size W W3) := ⟨keepsFrom_below (Below.trans (below_drew1 (Below.refl _ _)) HB5.out)⟩
        have fin : Aside0 (¬ wrap64 (x.o + outS x.s) < a1 → ∀ z, (if x.s.f0 = 1 then wrap64 (x.i + mx (wrap64 (a1 - x.o)) 0) else x.i) = z → ownPostG (w2.heap.size + 1) (KpS w.heap.size (w2.heap.size + 1)) (LsI w a1) (LsX w a1) (pre ++ [x]) W Exit.ret { tmps := #[], defers := [] } ((W3.setCell ⟨w.heap.size + 1, 0, none⟩ (.int .i64 z)).setCell ⟨w.heap.size + 1 + 1, 0, none⟩ (.int .i64 0))) := ⟨by
          rintro hc z rfl
          rw [← hsz]
          exact ⟨(hkf.out.trans ((KeepsOthers.setCell _ _ _).from _)).trans ((KeepsOthers.setCell _ _ _).from _), rfl, pre, x, rfl, PP.out, hc, (B5.out.setV _).setE 0⟩⟩
        cases bb with
        | true =>
          have P2 : Aside0 (∀ y ∈ pre ++ [x], wrap64 (y.o + outS y.s) < a1) := ⟨fun y hy => (List.mem_append.1 hy).elim (PP.out y) (fun e => by
            simp at e
            subst e
            have := HBB.out
            rw [i64_w] at this
            exact of_decide_eq_true this.symm)⟩
          gi_wp2
          rw [← hsz]
          exact ⟨hkf.out, by rw [hsz]; exact hkp.out, B5.out, P2.out⟩
        | false =>
          have C1 : Aside0 (¬ wrap64 (x.o + outS x.s) < a1) := ⟨by
            have := HBB.out
            rw [i64_w] at this
            exact of_decide_eq_false this.symm⟩
          have fin2 := Aside0.mk (fin.out C1.out)
          clear fin
          by_cases c2 : x.s.f0 = 1
          · have d2 : (x.s.f0 == 1) = true := by simp [c2]
            have C2 := Aside0.mk c2
            clear c2
            gi_wp2
            · next h => exact fin2.out _ (by rw [if_pos C2.out, mx, if_pos (by first | exact h | omega), Int.add_zero])
            · next h => exact fin2.out _ (by rw [if_pos C2.out, mx, if_neg (by omega)])
          · have d2 : (x.s.f0 == 1) = false := by simp [c2]
            have C2 := Aside0.mk c2
            clear c2
            gi_wp2
            exact fin2.out _ (by rw [if_neg C2.out])
      clear hKb
      gi_region_with_o (refine ⟨trivial, ?_⟩; gi_at_call 38; (with_reducible refine (CallsIn.inRound l (callsIn_wide.2 (span_Out.calls _ _ _ _ _ (HG.out.below BBD.out.b) HXO.out))).mono ?_); rintro e5 W3 ⟨rfl, hb⟩; have HB5 := Aside0.mk hb; have B5 := Aside0.mk (BBD.out.more hb); have BX5 : Aside0 (Boxed5 W3 Bx x) := ⟨blk_below BXD.out hb⟩; obtain ⟨r0, r1, r2, r3, r4⟩ := B5.out.cells; have cz4 := (blk_cell BX5.out 4).trans (show _ = some (Value.int .i64 x.o) from rfl); clear hb)
      all_goals exact key _ B5 BX5 HB5 _ ⟨rfl⟩
    case done =>
      rintro D zs W hD rfl ⟨hB, hP⟩ hK
      have HW : Aside0 (leastS a1 (stepsL l0 0 0) = 0) := ⟨leastS_all a1 _ hP⟩
      have B5 := Aside0.mk hB
      obtain ⟨q0, q1, q2, q3, q4⟩ := hB.cells
      have hd := hB.bounds
      clear hB hP
      go_wp2
      show bodyPostM _ _ _ _ _ Exit.ret _ _
      have B6 := (B5.out.setV 0).setE 0
      have hK' := ((KeepsOthers.setCell W ⟨w.heap.size + 1, 0, none⟩ (.int .i64 0)).trans (KeepsOthers.setCell _ ⟨w.heap.size + 1 + 1, 0, none⟩ (.int .i64 0))).same D _ hK rfl
      have B7 := (LsB.own (β := Unit) w a1 0 0 (B := W0.heap.size) (by omega)).putObj (s := ()) (.deferred none) B6 hD hK' rfl
      obtain ⟨p0, p1, p2, p3, p4⟩ := B7.cells
      refine ⟨by simp, .inl ⟨_, _, rfl, run_takeDeferred hK', ?_⟩⟩
      exact ⟨.tuple #[.int .i64 (leastS a1 (stepsL l0 0 0)), .int .i64 0], by rw [HW.out]; simp [results, Tryd.results15, Tryd.f15, go_sem, p1, p2], rfl, B7.b⟩
    case stop =>
      rintro D c pre W hD ⟨r, hpre⟩ ⟨rfl, ini, x, rfl, hi, hx, hB⟩ hK
      have HW := Aside0.mk (leastS_stop a1 ini x r hi hx)
      have HP := Aside0.mk hpre
      have B5 := Aside0.mk hB
      obtain ⟨q0, q1, q2, q3, q4⟩ := hB.cells
      clear hB hi hx hpre
      gi_wp2
      show bodyPostM _ _ _ _ _ Exit.ret _ _
      have hl := HW.out
      rw [show ini ++ x :: r = stepsL l0 0 0 by rw [← HP.out]; simp] at hl
      rw [← hl] at B5
      have B7 := (LsB.own (β := Unit) w a1 _ 0 (B := W0.heap.size) (by omega)).putObj (s := ()) (.deferred none) B5.out hD hK rfl
      obtain ⟨p0, p1, p2, p3, p4⟩ := B7.cells
      refine ⟨by simp, .inl ⟨_, _, rfl, run_takeDeferred hK, ?_⟩⟩
      exact ⟨.tuple #[.int .i64 (leastS a1 (stepsL l0 0 0)), .int .i64 0], by simp [results, Tryd.results15, Tryd.f15, go_sem, p1, p2], rfl, B7.b⟩
  clear hK1
  go_region_with (first | (go_at_call 11; (with_reducible refine (op_Out.calls k _ _ l0 n _ (HG.out.below BD.out.b) (Kd.C_below HR0.out BD.out.b) HC0.out H2.out).mono ?_); rintro e3 w2 ⟨rfl, hb⟩; have B2 := Aside0.mk (BD.out.more hb); obtain ⟨r0, r1, r2, r3, r4⟩ := B2.out.cells; clear hb))
  all_goals exact key _ B2
theorem place_Least.calls (k : Nat) (A0 : Option Addr) (c0 : Nat) (l0 : List S55) (a1 r1 r2 : Int) (w : World) (hG : Glob w) (hr0 : Kd.C k55 w A0 l0.length l0) (hc0 : l0.length ≤ c0) (h : place_Least.f k l0 a1 = some (r1, r2)) :
  Calls Tryd.prog 15 #[.slice A0 l0.length c0, .int .i64 a1] w fun e w' => e = .returned (.tuple #[.int .i64 r1, .int .i64 r2]) ∧ Below w.heap.size w w' := by
 unfold place_Least.f at h
 split at h
 ·next hok =>
  obtain ⟨e, he, h⟩ := Option.bind_eq_some_iff.1 h
  split at h
  ·next h0 =>
   subst h0
   split at h
   ·next hlow =>
    obtain ⟨rfl, rfl⟩ : 0 = r1 ∧ 6 = r2 := by simpa using h
    exact place_Least_low k A0 c0 l0 a1 hlow w hG hr0 hc0 he
   ·next hlow =>
    obtain ⟨n, hn, h⟩ := Option.bind_eq_some_iff.1 h
    split at h
    ·next hhi =>
     obtain ⟨rfl, rfl⟩ : 0 = r1 ∧ 6 = r2 := by simpa using h
     exact place_Least_high k A0 c0 l0 a1 n (by omega) (by omega) w hG hr0 hc0 he hn
    ·next hhi =>
     obtain ⟨rfl, rfl⟩ : leastS a1 (stepsL l0 0 0) = r1 ∧ 0 = r2 := by simpa using h
     exact place_Least_main k A0 c0 l0 a1 n (by omega) (by omega) w hG hr0 hc0 hok he hn
  ·next h0 =>
   obtain ⟨rfl, rfl⟩ : 0 = r1 ∧ e = r2 := by simpa using h
   exact place_Least_bad k A0 c0 l0 a1 e h0 w hG hr0 hc0 he
 ·cases h
end Go.Proofs.YtekjfodfedpioaaDoor.F
end
section
namespace Go.Proofs.YtekjfodfedpioaaDoor.F
open Go.RowKit Go.Proofs.YtekjfodfedpioaaDoorW.PrintWords Go.Proofs.YtekjfodfedpioaaDoorW.PrintLast Go.Proofs.YtekjfodfedpioaaDoorW.PrintMore
set_option linter.unusedVariables false
set_option linter.unusedSimpArgs false
abbrev zA.a := @Kd.R_alloc
abbrev zA.n := @Kd.R_drewN
abbrev zA.d := @Kd.R_drew
abbrev zA.w := @pw_below_drewN
abbrev zA.b := @below_alloc
abbrev zA.e := @below_drew1
abbrev zA.s := @below_set
abbrev zA.f := @blk_drewN
abbrev zA.g := @blk_drew
abbrev zA.h := @blk_alloc
abbrev zA.p := @Kd.Q_alloc
abbrev zA.q := @Kd.Q_drewN
abbrev zA.r := @Kd.Q_drew
end Go.Proofs.YtekjfodfedpioaaDoor.F
end
section
namespace Go.Proofs.YtekjfodfedpioaaDoor.F
open Go.RowKit Go.Proofs.YtekjfodfedpioaaDoorW.PrintWords Go.Proofs.YtekjfodfedpioaaDoorW.PrintLast Go.Proofs.YtekjfodfedpioaaDoorW.PrintMore
attribute [local go_sem] max2_int min2_int max_two min_two max_three min_three max_four min_four cell_setCell_isSome
set_option linter.unusedVariables false
set_option linter.unusedSimpArgs false
open Kd
mutual
def epitomelaw09_ComposeGaps.j0 : Nat → List (S55) → Bool → List ByteArray → List Bool → List ByteArray → List Bool → List ByteArray → List Bool → Option (Bool)
  | 0, _, _, _, _, _, _, _, _ => none
  | k + 1, x8, x93, x121000, x121001, x129000, x129001, x137000, x137001 => if x93 = true then (some false) else (if 0 ≤ (x121000.length : Int) then (if ((x121000.length : Int) : Int).toNat ≤ 17592186044416 then ((some (([] : List Bool) : List Bool)).bind fun y142 => (if y142.length + x121001.length < 140737488355328 then (epitomelaw09_ComposeGaps.l0 k x8 0 0 x121000 x121001 x129000 x129001 x137000 x137001 (List.replicate ((x121000.length : Int) : Int).toNat (⟨#[]⟩ : ByteArray)) (y142 ++ x121001)) else (none))) else (none)) else (none))
def epitomelaw09_ComposeGaps.l0 : Nat → List (S55) → Int → Int → List ByteArray → List Bool → List ByteArray → List Bool → List ByteArray → List Bool → List ByteArray → List Bool → Option (Bool)
  | 0, _, _, _, _, _, _, _, _, _, _, _ => none
  | k + 1, x8, x19, x20, x121000, x121001, x129000, x129001, x137000, x137001, x149000, x149001 => if x20 < (x121000.length : Int) then (if 0 ≤ x20 then ((points_Count.f (rdOf ByteArray.empty x121000 x20)).bind fun t151 => (if x20 < (x121001.length : Int) then (epitomelaw09_ComposeGaps.j2 k x8 x19 x20 t151 (!(rdOf false x121001 x20)) x121000 x121001 x129000 x129001 x137000 x137001 x149000 x149001) else (epitomelaw09_ComposeGaps.j2 k x8 x19 x20 t151 false x121000 x121001 x129000 x129001 x137000 x137001 x149000 x149001))) else (none)) else ((epitomeref06_Same.f k x137000 x137001 x149000 x149001).bind fun t149 => (some t149))
def epitomelaw09_ComposeGaps.j2 : Nat → List (S55) → Int → Int → Int → Bool → List ByteArray → List Bool → List ByteArray → List Bool → List ByteArray → List Bool → List ByteArray → List Bool → Option (Bool)
  | 0, _, _, _, _, _, _, _, _, _, _, _, _, _ => none
  | k + 1, x8, x19, x20, x21, x22, x121000, x121001, x129000, x129001, x137000, x137001, x149000, x149001 => epitomelaw09_ComposeGaps.l1 k x8 x19 x20 x21 x22 0 x121000 x121001 x129000 x129001 x137000 x137001 x149000 x149001
def epitomelaw09_ComposeGaps.l1 : Nat → List (S55) → Int → Int → Int → Bool → Int → List ByteArray → List Bool → List ByteArray → List Bool → List ByteArray → List Bool → List ByteArray → List Bool → Option (Bool)
  | 0, _, _, _, _, _, _, _, _, _, _, _, _, _, _ => none
  | k + 1, x8, x19, x20, x21, x22, x23, x121000, x121001, x129000, x129001, x137000, x137001, x149000, x149001 => if x23 ≤ x21 then (if x19 ≥ (x129000.length : Int) then (epitomelaw09_ComposeGaps.j4 k x8 x19 x20 x21 x22 x23 true x121000 x121001 x129000 x129001 x137000 x137001 x149000 x149001) else (if x23 = x21 then (if x22 = true then (epitomelaw09_ComposeGaps.j4 k x8 x19 x20 x21 x22 x23 false x121000 x121001 x129000 x129001 x137000 x137001 x149000 x149001) else (epitomelaw09_ComposeGaps.j4 k x8 x19 x20 x21 x22 x23 (decide (x20 < (x121001.length : Int))) x121000 x121001 x129000 x129001 x137000 x137001 x149000 x149001)) else (epitomelaw09_ComposeGaps.j4 k x8 x19 x20 x21 x22 x23 false x121000 x121001 x129000 x129001 x137000 x137001 x149000 x149001))) else (if x22 = true then (if x19 < (x129001.length : Int) then (if 0 ≤ x19 then (if 0 ≤ x20 then (if x20 < (x149001.length : Int) then (epitomelaw09_ComposeGaps.l0 k x8 (wrap64 (x19 + 1)) (wrap64 (x20 + 1)) x121000 x121001 x129000 x129001 x137000 x137001 x149000 (x149001.set (x20 : Int).toNat (rdOf false x129001 x19))) else (none)) else (none)) else (none)) else (epitomelaw09_ComposeGaps.l0 k x8 x19 (wrap64 (x20 + 1)) x121000 x121001 x129000 x129001 x137000 x137001 x149000 x149001)) else (epitomelaw09_ComposeGaps.l0 k x8 x19 (wrap64 (x20 + 1)) x121000 x121001 x129000 x129001 x137000 x137001 x149000 x149001))
def epitomelaw09_ComposeGaps.j4 : Nat → List (S55) → Int → Int → Int → Bool → Int → Bool → List ByteArray → List Bool → List ByteArray → List Bool → List ByteArray → List Bool → List ByteArray → List Bool → Option (Bool)
  | 0, _, _, _, _, _, _, _, _, _, _, _, _, _, _, _ => none
  | k + 1, x8, x19, x20, x21, x22, x23, x154, x121000, x121001, x129000, x129001, x137000, x137001, x149000, x149001 => if x154 = true then (if x22 = true then (if x19 < (x129001.length : Int) then (if 0 ≤ x19 then (if 0 ≤ x20 then (if x20 < (x149001.length : Int) then (epitomelaw09_ComposeGaps.l0 k x8 (wrap64 (x19 + 1)) (wrap64 (x20 + 1)) x121000 x121001 x129000 x129001 x137000 x137001 x149000 (x149001.set (x20 : Int).toNat (rdOf false x129001 x19))) else (none)) else (none)) else (none)) else (epitomelaw09_ComposeGaps.l0 k x8 x19 (wrap64 (x20 + 1)) x121000 x121001 x129000 x129001 x137000 x137001 x149000 x149001)) else (epitomelaw09_ComposeGaps.l0 k x8 x19 (wrap64 (x20 + 1)) x121000 x121001 x129000 x129001 x137000 x137001 x149000 x149001)) else ((place_Least.f k x8 x19).bind fun bt157 => (if bt157.2 = 0 then (if bt157.1 < 0 then (epitomelaw09_ComposeGaps.j5 k x8 x19 x20 x21 x22 x23 bt157.1 true x121000 x121001 x129000 x129001 x137000 x137001 x149000 x149001) else (epitomelaw09_ComposeGaps.j5 k x8 x19 x20 x21 x22 x23 bt157.1 (decide (bt157.1 ≥ (x149000.length : Int))) x121000 x121001 x129000 x129001 x137000 x137001 x149000 x149001)) else (epitomelaw09_ComposeGaps.j5 k x8 x19 x20 x21 x22 x23 bt157.1 true x121000 x121001 x129000 x129001 x137000 x137001 x149000 x149001)))
def epitomelaw09_ComposeGaps.j5 : Nat → List (S55) → Int → Int → Int → Bool → Int → Int → Bool → List ByteArray → List Bool → List ByteArray → List Bool → List ByteArray → List Bool → List ByteArray → List Bool → Option (Bool)
  | 0, _, _, _, _, _, _, _, _, _, _, _, _, _, _, _, _ => none
  | k + 1, x8, x19, x20, x21, x22, x23, x24, x173, x121000, x121001, x129000, x129001, x137000, x137001, x149000, x149001 => if x173 = true then (some false) else (if 0 ≤ x24 then (if x24 < (x149000.length : Int) then (if 0 ≤ x19 then (if x19 < (x129000.length : Int) then (if (rdOf ByteArray.empty x149000 x24).size + (rdOf ByteArray.empty x129000 x19).size ≤ 9223372036854775807 then ((some (x149000.set (x24 : Int).toNat ((rdOf ByteArray.empty x149000 x24) ++ (rdOf ByteArray.empty x129000 x19)) : List ByteArray)).bind fun y161 => (if x23 < x21 then (epitomelaw09_ComposeGaps.j6 k x8 x19 x20 x21 x22 x23 (decide (x19 < (x129001.length : Int))) x121000 x121001 x129000 x129001 x137000 x137001 y161 x149001) else (epitomelaw09_ComposeGaps.j6 k x8 x19 x20 x21 x22 x23 false x121000 x121001 x129000 x129001 x137000 x137001 y161 x149001))) else (none)) else (none)) else (none)) else (none)) else (none))
def epitomelaw09_ComposeGaps.j6 : Nat → List (S55) → Int → Int → Int → Bool → Int → Bool → List ByteArray → List Bool → List ByteArray → List Bool → List ByteArray → List Bool → List ByteArray → List Bool → Option (Bool)
  | 0, _, _, _, _, _, _, _, _, _, _, _, _, _, _, _ => none
  | k + 1, x8, x19, x20, x21, x22, x23, x198, x121000, x121001, x129000, x129001, x137000, x137001, x149000, x149001 => if x198 = true then (if 0 ≤ x20 then (if x20 < (x121000.length : Int) then ((points_Cut.f (rdOf ByteArray.empty x121000 x20) x23 (wrap64 (x23 + 1))).bind fun bt163 => (if bt163.2 = 0 then (if 0 ≤ x19 then (if x19 < (x129001.length : Int) then (if rdOf false x129001 x19 = true then (epitomelaw09_ComposeGaps.l1 k x8 (wrap64 (x19 + 1)) x20 x21 x22 (wrap64 (x23 + 1)) x121000 x121001 x129000 x129001 x137000 x137001 x149000 x149001) else (if x20 < (x149000.length : Int) then (if (rdOf ByteArray.empty x149000 x20).size + bt163.1.size ≤ 9223372036854775807 then (epitomelaw09_ComposeGaps.l1 k x8 (wrap64 (x19 + 1)) x20 x21 x22 (wrap64 (x23 + 1)) x121000 x121001 x129000 x129001 x137000 x137001 (x149000.set (x20 : Int).toNat ((rdOf ByteArray.empty x149000 x20) ++ bt163.1)) x149001) else (none)) else (none))) else (none)) else (none)) else (some false))) else (none)) else (none)) else (epitomelaw09_ComposeGaps.l1 k x8 x19 x20 x21 x22 (wrap64 (x23 + 1)) x121000 x121001 x129000 x129001 x137000 x137001 x149000 x149001)
end
def epitomelaw09_ComposeGaps.f (k : Nat) (l0 : List (S55)) (l1 : List (S55)) (a2 : Int) : Option (Bool) := (epitomelaw09_shown.f k).bind fun t101 => ((epitomeref04_Fit.f k l0 (wrap64 (Int.tmod a2 31))).bind fun t102 => ((op_Out.f k t102).bind fun t105 => ((epitomeref04_Fit.f k l1 t105).bind fun t106 => ((compose_Of.f k t102 t106).bind fun bt109 => ((gaps_Of.f k t102).bind fun bt113 => ((gaps_Of.f k t106).bind fun bt121 => ((gaps_Of.f k bt109.1).bind fun bt129 => (if t101 = true then (if bt109.2 = 0 then (if bt113.2.2 = 0 then (if bt121.2.2 = 0 then (if bt129.2.2 = 0 then ((op_Out.f k t102).bind fun t137 => (if (bt121.1.length : Int) = (wrap64 (t137 + 1)) then ((op_Out.f k t102).bind fun t138 => (epitomelaw09_ComposeGaps.j0 k t102 ((bt121.2.1.length : Int) != t138) bt113.1 bt113.2.1 bt121.1 bt121.2.1 bt129.1 bt129.2.1)) else (epitomelaw09_ComposeGaps.j0 k t102 true bt113.1 bt113.2.1 bt121.1 bt121.2.1 bt129.1 bt129.2.1))) else (epitomelaw09_ComposeGaps.j0 k t102 true bt113.1 bt113.2.1 bt121.1 bt121.2.1 bt129.1 bt129.2.1)) else (epitomelaw09_ComposeGaps.j0 k t102 true bt113.1 bt113.2.1 bt121.1 bt121.2.1 bt129.1 bt129.2.1)) else (epitomelaw09_ComposeGaps.j0 k t102 true bt113.1 bt113.2.1 bt121.1 bt121.2.1 bt129.1 bt129.2.1)) else (epitomelaw09_ComposeGaps.j0 k t102 true bt113.1 bt113.2.1 bt121.1 bt121.2.1 bt129.1 bt129.2.1)) else (epitomelaw09_ComposeGaps.j0 k t102 true bt113.1 bt113.2.1 bt121.1 bt121.2.1 bt129.1 bt129.2.1)))))))))
theorem epitomelaw09_ComposeGaps.mono_l : ∀ k, (∀ y0 y1 y2 y3 y4 y5 y6 y7, LeO (epitomelaw09_ComposeGaps.j0 k y0 y1 y2 y3 y4 y5 y6 y7) (epitomelaw09_ComposeGaps.j0 (k + 1) y0 y1 y2 y3 y4 y5 y6 y7)) ∧ (∀ y0 y1 y2 y3 y4 y5 y6 y7 y8 y9 y10, LeO (epitomelaw09_ComposeGaps.l0 k y0 y1 y2 y3 y4 y5 y6 y7 y8 y9 y10) (epitomelaw09_ComposeGaps.l0 (k + 1) y0 y1 y2 y3 y4 y5 y6 y7 y8 y9 y10)) ∧ (∀ y0 y1 y2 y3 y4 y5 y6 y7 y8 y9 y10 y11 y12, LeO (epitomelaw09_ComposeGaps.j2 k y0 y1 y2 y3 y4 y5 y6 y7 y8 y9 y10 y11 y12) (epitomelaw09_ComposeGaps.j2 (k + 1) y0 y1 y2 y3 y4 y5 y6 y7 y8 y9 y10 y11 y12)) ∧ (∀ y0 y1 y2 y3 y4 y5 y6 y7 y8 y9 y10 y11 y12 y13, LeO (epitomelaw09_ComposeGaps.l1 k y0 y1 y2 y3 y4 y5 y6 y7 y8 y9 y10 y11 y12 y13) (epitomelaw09_ComposeGaps.l1 (k + 1) y0 y1 y2 y3 y4 y5 y6 y7 y8 y9 y10 y11 y12 y13)) ∧ (∀ y0 y1 y2 y3 y4 y5 y6 y7 y8 y9 y10 y11 y12 y13 y14, LeO (epitomelaw09_ComposeGaps.j4 k y0 y1 y2 y3 y4 y5 y6 y7 y8 y9 y10 y11 y12 y13 y14) (epitomelaw09_ComposeGaps.j4 (k + 1) y0 y1 y2 y3 y4 y5 y6 y7 y8 y9 y10 y11 y12 y13 y14)) ∧ (∀ y0 y1 y2 y3 y4 y5 y6 y7 y8 y9 y10 y11 y12 y13 y14 y15, LeO (epitomelaw09_ComposeGaps.j5 k y0 y1 y2 y3 y4 y5 y6 y7 y8 y9 y10 y11 y12 y13 y14 y15) (epitomelaw09_ComposeGaps.j5 (k + 1) y0 y1 y2 y3 y4 y5 y6 y7 y8 y9 y10 y11 y12 y13 y14 y15)) ∧ (∀ y0 y1 y2 y3 y4 y5 y6 y7 y8 y9 y10 y11 y12 y13 y14, LeO (epitomelaw09_ComposeGaps.j6 k y0 y1 y2 y3 y4 y5 y6 y7 y8 y9 y10 y11 y12 y13 y14) (epitomelaw09_ComposeGaps.j6 (k + 1) y0 y1 y2 y3 y4 y5 y6 y7 y8 y9 y10 y11 y12 y13 y14))
  | 0 => ⟨fun _ _ _ _ _ _ _ _ r h => by simp [epitomelaw09_ComposeGaps.j0] at h, fun _ _ _ _ _ _ _ _ _ _ _ r h => by simp [epitomelaw09_ComposeGaps.l0] at h, fun _ _ _ _ _ _ _ _ _ _ _ _ _ r h => by simp [epitomelaw09_ComposeGaps.j2] at h, fun _ _ _ _ _ _ _ _ _ _ _ _ _ _ r h => by simp [epitomelaw09_ComposeGaps.l1] at h, fun _ _ _ _ _ _ _ _ _ _ _ _ _ _ _ r h => by simp [epitomelaw09_ComposeGaps.j4] at h, fun _ _ _ _ _ _ _ _ _ _ _ _ _ _ _ _ r h => by simp [epitomelaw09_ComposeGaps.j5] at h, fun _ _ _ _ _ _ _ _ _ _ _ _ _ _ _ r h => by simp [epitomelaw09_ComposeGaps.j6] at h⟩
  | k + 1 => by
    obtain ⟨ih0, ih1, ih2, ih3, ih4, ih5, ih6⟩ := epitomelaw09_ComposeGaps.mono_l k
    refine ⟨?_, ?_, ?_, ?_, ?_, ?_, ?_⟩
    · intro y0 y1 y2 y3 y4 y5 y6 y7
      unfold epitomelaw09_ComposeGaps.j0
      repeat' first
      | (with_reducible exact ih0 _ _ _ _ _ _ _ _)
      | (with_reducible exact ih1 _ _ _ _ _ _ _ _ _ _ _)
      | (with_reducible exact ih2 _ _ _ _ _ _ _ _ _ _ _ _ _)
      | (with_reducible exact ih3 _ _ _ _ _ _ _ _ _ _ _ _ _ _)
      | (with_reducible exact ih4 _ _ _ _ _ _ _ _ _ _ _ _ _ _ _)
      | (with_reducible exact ih5 _ _ _ _ _ _ _ _ _ _ _ _ _ _ _ _)
      | (with_reducible exact ih6 _ _ _ _ _ _ _ _ _ _ _ _ _ _ _)
      | (with_reducible exact compose_Of.mono _ _ _)
      | (with_reducible exact epitomelaw09_shown.mono _)
      | (with_reducible exact epitomeref04_Fit.mono _ _ _)
      | (with_reducible exact epitomeref06_Same.mono _ _ _ _ _)
      | (with_reducible exact gaps_Of.mono _ _)
      | (with_reducible exact op_Out.mono _ _)
      | (with_reducible exact place_Least.mono _ _ _)
      | (with_reducible exact LeO.refl _)
      | (with_reducible exact LeO.none _)
      | (with_reducible refine LeO.ite ?_ ?_)
      | (with_reducible refine LeO.bind ?_ (fun _ => ?_))
      | exact ih0 _ _ _ _ _ _ _ _
      | exact ih1 _ _ _ _ _ _ _ _ _ _ _
      | exact ih2 _ _ _ _ _ _ _ _ _ _ _ _ _
      | exact ih3 _ _ _ _ _ _ _ _ _ _ _ _ _ _
      | exact ih4 _ _ _ _ _ _ _ _ _ _ _ _ _ _ _
      | exact ih5 _ _ _ _ _ _ _ _ _ _ _ _ _ _ _ _
      | exact ih6 _ _ _ _ _ _ _ _ _ _ _ _ _ _ _
      | exact compose_Of.mono _ _ _
      | exact epitomelaw09_shown.mono _
      | exact epitomeref04_Fit.mono _ _ _
      | exact epitomeref06_Same.mono _ _ _ _ _
      | exact gaps_Of.mono _ _
      | exact op_Out.mono _ _
      | exact place_Least.mono _ _ _
      | exact LeO.none _
      | refine LeO.ite ?_ ?_
      | refine LeO.bind ?_ (fun _ => ?_)
    · intro y0 y1 y2 y3 y4 y5 y6 y7 y8 y9 y10
      unfold epitomelaw09_ComposeGaps.l0
      repeat' first
      | (with_reducible exact ih0 _ _ _ _ _ _ _ _)
      | (with_reducible exact ih1 _ _ _ _ _ _ _ _ _ _ _)
      | (with_reducible exact ih2 _ _ _ _ _ _ _ _ _ _ _ _ _)
      | (with_reducible exact ih3 _ _ _ _ _ _ _ _ _ _ _ _ _ _)
      | (with_reducible exact ih4 _ _ _ _ _ _ _ _ _ _ _ _ _ _ _)
      | (with_reducible exact ih5 _ _ _ _ _ _ _ _ _ _ _ _ _ _ _ _)
      | (with_reducible exact ih6 _ _ _ _ _ _ _ _ _ _ _ _ _ _ _)
      | (with_reducible exact compose_Of.mono _ _ _)
      | (with_reducible exact epitomelaw09_shown.mono _)
      | (with_reducible exact epitomeref04_Fit.mono _ _ _)
      | (with_reducible exact epitomeref06_Same.mono _ _ _ _ _)
      | (with_reducible exact gaps_Of.mono _ _)
      | (with_reducible exact op_Out.mono _ _)
      | (with_reducible exact place_Least.mono _ _ _)
      | (with_reducible exact LeO.refl _)
      | (with_reducible exact LeO.none _)
      | (with_reducible refine LeO.ite ?_ ?_)
      | (with_reducible refine LeO.bind ?_ (fun _ => ?_))
      | exact ih0 _ _ _ _ _ _ _ _
      | exact ih1 _ _ _ _ _ _ _ _ _ _ _
      | exact ih2 _ _ _ _ _ _ _ _ _ _ _ _ _
      | exact ih3 _ _ _ _ _ _ _ _ _ _ _ _ _ _
      | exact ih4 _ _ _ _ _ _ _ _ _ _ _ _ _ _ _
      | exact ih5 _ _ _ _ _ _ _ _ _ _ _ _ _ _ _ _
      | exact ih6 _ _ _ _ _ _ _ _ _ _ _ _ _ _ _
      | exact compose_Of.mono _ _ _
      | exact epitomelaw09_shown.mono _
      | exact epitomeref04_Fit.mono _ _ _
      | exact epitomeref06_Same.mono _ _ _ _ _
      | exact gaps_Of.mono _ _
      | exact op_Out.mono _ _
      | exact place_Least.mono _ _ _
      | exact LeO.none _
      | refine LeO.ite ?_ ?_
      | refine LeO.bind ?_ (fun _ => ?_)
    · intro y0 y1 y2 y3 y4 y5 y6 y7 y8 y9 y10 y11 y12
      unfold epitomelaw09_ComposeGaps.j2
      repeat' first
      | (with_reducible exact ih0 _ _ _ _ _ _ _ _)
      | (with_reducible exact ih1 _ _ _ _ _ _ _ _ _ _ _)
      | (with_reducible exact ih2 _ _ _ _ _ _ _ _ _ _ _ _ _)
      | (with_reducible exact ih3 _ _ _ _ _ _ _ _ _ _ _ _ _ _)
      | (with_reducible exact ih4 _ _ _ _ _ _ _ _ _ _ _ _ _ _ _)
      | (with_reducible exact ih5 _ _ _ _ _ _ _ _ _ _ _ _ _ _ _ _)
      | (with_reducible exact ih6 _ _ _ _ _ _ _ _ _ _ _ _ _ _ _)
      | (with_reducible exact compose_Of.mono _ _ _)
      | (with_reducible exact epitomelaw09_shown.mono _)
      | (with_reducible exact epitomeref04_Fit.mono _ _ _)
      | (with_reducible exact epitomeref06_Same.mono _ _ _ _ _)
      | (with_reducible exact gaps_Of.mono _ _)
      | (with_reducible exact op_Out.mono _ _)
      | (with_reducible exact place_Least.mono _ _ _)
      | (with_reducible exact LeO.refl _)
      | (with_reducible exact LeO.none _)
      | (with_reducible refine LeO.ite ?_ ?_)
      | (with_reducible refine LeO.bind ?_ (fun _ => ?_))
      | exact ih0 _ _ _ _ _ _ _ _
      | exact ih1 _ _ _ _ _ _ _ _ _ _ _
      | exact ih2 _ _ _ _ _ _ _ _ _ _ _ _ _
      | exact ih3 _ _ _ _ _ _ _ _ _ _ _ _ _ _
      | exact ih4 _ _ _ _ _ _ _ _ _ _ _ _ _ _ _
      | exact ih5 _ _ _ _ _ _ _ _ _ _ _ _ _ _ _ _
      | exact ih6 _ _ _ _ _ _ _ _ _ _ _ _ _ _ _
      | exact compose_Of.mono _ _ _
      | exact epitomelaw09_shown.mono _
      | exact epitomeref04_Fit.mono _ _ _
      | exact epitomeref06_Same.mono _ _ _ _ _
      | exact gaps_Of.mono _ _
      | exact op_Out.mono _ _
      | exact place_Least.mono _ _ _
      | exact LeO.none _
      | refine LeO.ite ?_ ?_
      | refine LeO.bind ?_ (fun _ => ?_)
    · intro y0 y1 y2 y3 y4 y5 y6 y7 y8 y9 y10 y11 y12 y13
      unfold epitomelaw09_ComposeGaps.l1
      repeat' first
      | (with_reducible exact ih0 _ _ _ _ _ _ _ _)
      | (with_reducible exact ih1 _ _ _ _ _ _ _ _ _ _ _)
      | (with_reducible exact ih2 _ _ _ _ _ _ _ _ _ _ _ _ _)
      | (with_reducible exact ih3 _ _ _ _ _ _ _ _ _ _ _ _ _ _)
      | (with_reducible exact ih4 _ _ _ _ _ _ _ _ _ _ _ _ _ _ _)
      | (with_reducible exact ih5 _ _ _ _ _ _ _ _ _ _ _ _ _ _ _ _)
      | (with_reducible exact ih6 _ _ _ _ _ _ _ _ _ _ _ _ _ _ _)
      | (with_reducible exact compose_Of.mono _ _ _)
      | (with_reducible exact epitomelaw09_shown.mono _)
      | (with_reducible exact epitomeref04_Fit.mono _ _ _)
      | (with_reducible exact epitomeref06_Same.mono _ _ _ _ _)
      | (with_reducible exact gaps_Of.mono _ _)
      | (with_reducible exact op_Out.mono _ _)
      | (with_reducible exact place_Least.mono _ _ _)
      | (with_reducible exact LeO.refl _)
      | (with_reducible exact LeO.none _)
      | (with_reducible refine LeO.ite ?_ ?_)
      | (with_reducible refine LeO.bind ?_ (fun _ => ?_))
      | exact ih0 _ _ _ _ _ _ _ _
      | exact ih1 _ _ _ _ _ _ _ _ _ _ _
      | exact ih2 _ _ _ _ _ _ _ _ _ _ _ _ _
      | exact ih3 _ _ _ _ _ _ _ _ _ _ _ _ _ _
      | exact ih4 _ _ _ _ _ _ _ _ _ _ _ _ _ _ _
      | exact ih5 _ _ _ _ _ _ _ _ _ _ _ _ _ _ _ _
      | exact ih6 _ _ _ _ _ _ _ _ _ _ _ _ _ _ _
      | exact compose_Of.mono _ _ _
      | exact epitomelaw09_shown.mono _
      | exact epitomeref04_Fit.mono _ _ _
      | exact epitomeref06_Same.mono _ _ _ _ _
      | exact gaps_Of.mono _ _
      | exact op_Out.mono _ _
      | exact place_Least.mono _ _ _
      | exact LeO.none _
      | refine LeO.ite ?_ ?_
      | refine LeO.bind ?_ (fun _ => ?_)
    · intro y0 y1 y2 y3 y4 y5 y6 y7 y8 y9 y10 y11 y12 y13 y14
      unfold epitomelaw09_ComposeGaps.j4
      repeat' first
      | (with_reducible exact ih0 _ _ _ _ _ _ _ _)
      | (with_reducible exact ih1 _ _ _ _ _ _ _ _ _ _ _)
      | (with_reducible exact ih2 _ _ _ _ _ _ _ _ _ _ _ _ _)
      | (with_reducible exact ih3 _ _ _ _ _ _ _ _ _ _ _ _ _ _)
      | (with_reducible exact ih4 _ _ _ _ _ _ _ _ _ _ _ _ _ _ _)
      | (with_reducible exact ih5 _ _ _ _ _ _ _ _ _ _ _ _ _ _ _ _)
      | (with_reducible exact ih6 _ _ _ _ _ _ _ _ _ _ _ _ _ _ _)
      | (with_reducible exact compose_Of.mono _ _ _)
      | (with_reducible exact epitomelaw09_shown.mono _)
      | (with_reducible exact epitomeref04_Fit.mono _ _ _)
      | (with_reducible exact epitomeref06_Same.mono _ _ _ _ _)
      | (with_reducible exact gaps_Of.mono _ _)
      | (with_reducible exact op_Out.mono _ _)
      | (with_reducible exact place_Least.mono _ _ _)
      | (with_reducible exact LeO.refl _)
      | (with_reducible exact LeO.none _)
      | (with_reducible refine LeO.ite ?_ ?_)
      | (with_reducible refine LeO.bind ?_ (fun _ => ?_))
      | exact ih0 _ _ _ _ _ _ _ _
      | exact ih1 _ _ _ _ _ _ _ _ _ _ _
      | exact ih2 _ _ _ _ _ _ _ _ _ _ _ _ _
      | exact ih3 _ _ _ _ _ _ _ _ _ _ _ _ _ _
      | exact ih4 _ _ _ _ _ _ _ _ _ _ _ _ _ _ _
      | exact ih5 _ _ _ _ _ _ _ _ _ _ _ _ _ _ _ _
      | exact ih6 _ _ _ _ _ _ _ _ _ _ _ _ _ _ _
      | exact compose_Of.mono _ _ _
      | exact epitomelaw09_shown.mono _
      | exact epitomeref04_Fit.mono _ _ _
      | exact epitomeref06_Same.mono _ _ _ _ _
      | exact gaps_Of.mono _ _
      | exact op_Out.mono _ _
      | exact place_Least.mono _ _ _
      | exact LeO.none _
      | refine LeO.ite ?_ ?_
      | refine LeO.bind ?_ (fun _ => ?_)
    · intro y0 y1 y2 y3 y4 y5 y6 y7 y8 y9 y10 y11 y12 y13 y14 y15
      unfold epitomelaw09_ComposeGaps.j5
      repeat' first
      | (with_reducible exact ih0 _ _ _ _ _ _ _ _)
      | (with_reducible exact ih1 _ _ _ _ _ _ _ _ _ _ _)
      | (with_reducible exact ih2 _ _ _ _ _ _ _ _ _ _ _ _ _)
      | (with_reducible exact ih3 _ _ _ _ _ _ _ _ _ _ _ _ _ _)
      | (with_reducible exact ih4 _ _ _ _ _ _ _ _ _ _ _ _ _ _ _)
      | (with_reducible exact ih5 _ _ _ _ _ _ _ _ _ _ _ _ _ _ _ _)
      | (with_reducible exact ih6 _ _ _ _ _ _ _ _ _ _ _ _ _ _ _)
      | (with_reducible exact compose_Of.mono _ _ _)
      | (with_reducible exact epitomelaw09_shown.mono _)
      | (with_reducible exact epitomeref04_Fit.mono _ _ _)
      | (with_reducible exact epitomeref06_Same.mono _ _ _ _ _)
      | (with_reducible exact gaps_Of.mono _ _)
      | (with_reducible exact op_Out.mono _ _)
      | (with_reducible exact place_Least.mono _ _ _)
      | (with_reducible exact LeO.refl _)
      | (with_reducible exact LeO.none _)
      | (with_reducible refine LeO.ite ?_ ?_)
      | (with_reducible refine LeO.bind ?_ (fun _ => ?_))
      | exact ih0 _ _ _ _ _ _ _ _
      | exact ih1 _ _ _ _ _ _ _ _ _ _ _
      | exact ih2 _ _ _ _ _ _ _ _ _ _ _ _ _
      | exact ih3 _ _ _ _ _ _ _ _ _ _ _ _ _ _
      | exact ih4 _ _ _ _ _ _ _ _ _ _ _ _ _ _ _
      | exact ih5 _ _ _ _ _ _ _ _ _ _ _ _ _ _ _ _
      | exact ih6 _ _ _ _ _ _ _ _ _ _ _ _ _ _ _
      | exact compose_Of.mono _ _ _
      | exact epitomelaw09_shown.mono _
      | exact epitomeref04_Fit.mono _ _ _
      | exact epitomeref06_Same.mono _ _ _ _ _
      | exact gaps_Of.mono _ _
      | exact op_Out.mono _ _
      | exact place_Least.mono _ _ _
      | exact LeO.none _
      | refine LeO.ite ?_ ?_
      | refine LeO.bind ?_ (fun _ => ?_)
    · intro y0 y1 y2 y3 y4 y5 y6 y7 y8 y9 y10 y11 y12 y13 y14
      unfold epitomelaw09_ComposeGaps.j6
      repeat' first
      | (with_reducible exact ih0 _ _ _ _ _ _ _ _)
      | (with_reducible exact ih1 _ _ _ _ _ _ _ _ _ _ _)
      | (with_reducible exact ih2 _ _ _ _ _ _ _ _ _ _ _ _ _)
      | (with_reducible exact ih3 _ _ _ _ _ _ _ _ _ _ _ _ _ _)
      | (with_reducible exact ih4 _ _ _ _ _ _ _ _ _ _ _ _ _ _ _)
      | (with_reducible exact ih5 _ _ _ _ _ _ _ _ _ _ _ _ _ _ _ _)
      | (with_reducible exact ih6 _ _ _ _ _ _ _ _ _ _ _ _ _ _ _)
      | (with_reducible exact compose_Of.mono _ _ _)
      | (with_reducible exact epitomelaw09_shown.mono _)
      | (with_reducible exact epitomeref04_Fit.mono _ _ _)
      | (with_reducible exact epitomeref06_Same.mono _ _ _ _ _)
      | (with_reducible exact gaps_Of.mono _ _)
      | (with_reducible exact op_Out.mono _ _)
      | (with_reducible exact place_Least.mono _ _ _)
      | (with_reducible exact LeO.refl _)
      | (with_reducible exact LeO.none _)
      | (with_reducible refine LeO.ite ?_ ?_)
      | (with_reducible refine LeO.bind ?_ (fun _ => ?_))
      | exact ih0 _ _ _ _ _ _ _ _
      | exact ih1 _ _ _ _ _ _ _ _ _ _ _
      | exact ih2 _ _ _ _ _ _ _ _ _ _ _ _ _
      | exact ih3 _ _ _ _ _ _ _ _ _ _ _ _ _ _
      | exact ih4 _ _ _ _ _ _ _ _ _ _ _ _ _ _ _
      | exact ih5 _ _ _ _ _ _ _ _ _ _ _ _ _ _ _ _
      | exact ih6 _ _ _ _ _ _ _ _ _ _ _ _ _ _ _
      | exact compose_Of.mono _ _ _
      | exact epitomelaw09_shown.mono _
      | exact epitomeref04_Fit.mono _ _ _
      | exact epitomeref06_Same.mono _ _ _ _ _
      | exact gaps_Of.mono _ _
      | exact op_Out.mono _ _
      | exact place_Least.mono _ _ _
      | exact LeO.none _
      | refine LeO.ite ?_ ?_
      | refine LeO.bind ?_ (fun _ => ?_)
def epitomelaw09_ComposeGaps.T8 : Bool × List (List Nat × List Nat) := (true, [([], []), ([0], [0]), ([1], [1]), ([2], [2]), ([3, 2], [2, 3]), ([2, 4], [2, 4]), ([5, 2], [5]), ([6], [6]), ([7, 6], [6, 7]), ([6, 8], [6, 8]), ([9, 6], [9]), ([10], [10]), ([11, 10], [10, 11]), ([10, 12], [10, 12]), ([13, 10], [13]), ([14], [14]), ([15, 14], [14, 15]), ([14, 16], [14, 16]), ([17, 14], [17]), ([18], [18]), ([19, 18], [18, 19]), ([20, 18], [18, 20]), ([18], [18]), ([22, 18, 18], [18, 22]), ([23, 18], [18, 23]), ([21, 24, 18], [18, 21, 24]), ([18, 25], [18, 25]), ([26, 23], [26]), ([27], [27]), ([28, 27], [27, 28]), ([29, 27], [27, 29]), ([27], [27]), ([31, 27, 27], [27, 31]), ([30, 32, 27], [27, 30, 32]), ([27, 33], [27, 33])])
def epitomelaw09_ComposeGaps.B8 : List Nat := [0, 1, 3, 7, 15, 31, 63, 127, 255, 511, 1023, 2047, 4095, 8191, 16383, 32767, 65535, 131071, 262143, 524287, 1048575, 2097151, 524287, 4718591, 13107199, 33554431, 67108863, 134217727, 268435455, 536870911, 1073741823, 268435455, 2415919103, 8589934591, 17179869183]
theorem epitomelaw09_ComposeGaps.tab8 : rtab .any (opsOf Tryd.f3 8) = epitomelaw09_ComposeGaps.T8 := by kernel_rfl
theorem epitomelaw09_ComposeGaps.bits8 : waitsOk epitomelaw09_ComposeGaps.T8.2 epitomelaw09_ComposeGaps.B8 = true := by kernel_rfl
def epitomelaw09_ComposeGaps.T10 : Bool × List (List Nat × List Nat) := (true, [([], []), ([0], [0]), ([1], [1]), ([2, 2], [2]), ([], []), ([], []), ([5], [5]), ([4, 6], [4, 6]), ([3, 7], [3, 7]), ([], []), ([9, 8, 7, 0, 1, 2, 3, 4, 5, 6, 7, 8, 9], [8, 9])])
def epitomelaw09_ComposeGaps.B10 : List Nat := [0, 1, 3, 7, 0, 0, 32, 112, 255, 0, 1023]
theorem epitomelaw09_ComposeGaps.tab10 : rtab .any (opsOf Tryd.f3 10) = epitomelaw09_ComposeGaps.T10 := by kernel_rfl
theorem epitomelaw09_ComposeGaps.bits10 : waitsOk epitomelaw09_ComposeGaps.T10.2 epitomelaw09_ComposeGaps.B10 = true := by kernel_rfl
def epitomelaw09_ComposeGaps.T24 : Bool × List (List Nat × List Nat) := (true, [([], []), ([0], [0]), ([], []), ([], []), ([3], [3]), ([], []), ([4, 5], [4, 5]), ([6], [6]), ([], []), ([8], [8]), ([], []), ([9, 10], [9, 10]), ([11], [11]), ([7, 12], [7, 12]), ([1, 2, 0, 1, 2, 3, 4, 5, 6, 7, 8, 9, 10, 11, 12, 13], [1, 2]), ([14, 13, 0, 1, 2, 3, 4, 5, 6, 7, 8, 9, 10, 11, 12, 13], [13, 14])])
def epitomelaw09_ComposeGaps.B24 : List Nat := [0, 1, 0, 0, 8, 0, 56, 120, 0, 256, 0, 1792, 3840, 8184, 16383, 32767]
theorem epitomelaw09_ComposeGaps.tab24 : rtab .any (opsOf Tryd.f3 24) = epitomelaw09_ComposeGaps.T24 := by kernel_rfl
theorem epitomelaw09_ComposeGaps.bits24 : waitsOk epitomelaw09_ComposeGaps.T24.2 epitomelaw09_ComposeGaps.B24 = true := by kernel_rfl
def epitomelaw09_ComposeGaps.T30 : Bool × List (List Nat × List Nat) := (true, [([], []), ([0], [0]), ([], []), ([], []), ([3], [3]), ([], []), ([4, 5], [4, 5]), ([6], [6]), ([], []), ([7, 8], [7, 8]), ([1, 2, 0, 1, 2, 3, 4, 5, 6, 7, 8, 9], [1, 2]), ([10, 9, 0, 1, 2, 3, 4, 5, 6, 7, 8, 9], [9, 10])])
def epitomelaw09_ComposeGaps.B30 : List Nat := [0, 1, 0, 0, 8, 0, 56, 120, 0, 504, 1023, 2047]
theorem epitomelaw09_ComposeGaps.tab30 : rtab .any (opsOf Tryd.f3 30) = epitomelaw09_ComposeGaps.T30 := by kernel_rfl
theorem epitomelaw09_ComposeGaps.bits30 : waitsOk epitomelaw09_ComposeGaps.T30.2 epitomelaw09_ComposeGaps.B30 = true := by kernel_rfl
def epitomelaw09_ComposeGaps.T33 : Bool × List (List Nat × List Nat) := (true, [([], []), ([0], [0]), ([], []), ([], []), ([3], [3]), ([], []), ([4, 5], [4, 5]), ([6], [6]), ([1, 2, 0, 1, 2, 3, 4, 5, 6, 7], [1, 2]), ([8, 7, 0, 1, 2, 3, 4, 5, 6, 7], [7, 8])])
def epitomelaw09_ComposeGaps.B33 : List Nat := [0, 1, 0, 0, 8, 0, 56, 120, 255, 511]
theorem epitomelaw09_ComposeGaps.tab33 : rtab .any (opsOf Tryd.f3 33) = epitomelaw09_ComposeGaps.T33 := by kernel_rfl
theorem epitomelaw09_ComposeGaps.bits33 : waitsOk epitomelaw09_ComposeGaps.T33.2 epitomelaw09_ComposeGaps.B33 = true := by kernel_rfl
theorem jno0_ : ∀ k x0 y0 y1 y2 y3 y4 y5, epitomelaw09_ComposeGaps.j0 k x0 true y0 y1 y2 y3 y4 y5 ≠ some true
  | 0 => fun x0 y0 y1 y2 y3 y4 y5 h => by simp [epitomelaw09_ComposeGaps.j0] at h
  | k + 1 => fun x0 y0 y1 y2 y3 y4 y5 h => by simp [epitomelaw09_ComposeGaps.j0] at h
theorem jno5_ : ∀ k x0 x1 x2 x3 x4 x5 x6 y0 y1 y2 y3 y4 y5 y6 y7, epitomelaw09_ComposeGaps.j5 k x0 x1 x2 x3 x4 x5 x6 true y0 y1 y2 y3 y4 y5 y6 y7 ≠ some true
  | 0 => fun x0 x1 x2 x3 x4 x5 x6 y0 y1 y2 y3 y4 y5 y6 y7 h => by simp [epitomelaw09_ComposeGaps.j5] at h
  | k + 1 => fun x0 x1 x2 x3 x4 x5 x6 y0 y1 y2 y3 y4 y5 y6 y7 h => by simp [epitomelaw09_ComposeGaps.j5] at h
end Go.Proofs.YtekjfodfedpioaaDoor.F
end
