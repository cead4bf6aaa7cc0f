import Derived.Test.YtkefbljogjcodaaDoorKCOverGapsB
import Derived.Below
import Derived.Deep.Draws
import Derived.Deep.AppendLies
import Derived.Maps.AppendAt
import Derived.OwnWalk
import Derived.Laws.BytesArg
import Derived.Laws.MakeOwn
import Derived.Laws.OwnMore
import Derived.Deep.OwnRows
import Derived.Tactics
import Derived.Lib.ConvBytes
import Derived.Laws.Slices
import Derived.WalkKit
import Derived.KernelRfl
import Derived.RowKit3
import Derived.Deep.LoopGhost
import Derived.Deep.QuietTactic
import Derived.BigQuiet
import Derived.WideLaws
import Derived.Deep.DeepCutAuto
import Derived.Deep.CutBlock
import Derived.Deep.RegionHeld3
import Derived.Laws.Rows
import Derived.Lib.AppendStr
import Derived.ArgAppend
import Derived.Laws.IdiomCopy
import Derived.RowKit
import Derived.OrdersHeld
import Derived.Laws.BitsLemmas
import Derived.Laws.StructEq
import Derived.Test.YtkefbljogjcodaaDoorProg
import Derived.Handy
import Derived.Shelf.Unicode.DecodeSlow
import Derived.Ground.NamesProg
import Derived.Shelf.Unicode.ValidAny
import Derived.Laws.RangeString
import Derived.Laws.RangeAny
import Derived.Lib.RuneCount
import Derived.Laws.IdiomStrings
import Derived.Laws.Cover4
import Derived.Great.BuildSlice
import Derived.Defers
section
namespace Go.Proofs.YtkefbljogjcodaaDoor.F
open Go.RowKit Go.Proofs.YtkefbljogjcodaaDoorW.PrintWords Go.Proofs.YtkefbljogjcodaaDoorW.PrintLast Go.Proofs.YtkefbljogjcodaaDoorW.PrintMore
set_option linter.unusedVariables false
set_option linter.unusedSimpArgs false
def lessL : List S26 → Int → List S26
  | [], _ => []
  | s :: r, n => if wrap64 (s.f1 - n) = 0 then r else ⟨s.f0, wrap64 (s.f1 - n), s.f2⟩ :: r
def overL : Nat → List S26 → List S26 → List S26 → Option (List S26)
  | 0, _, _, _ => none
  | _ + 1, [], [], out => some out
  | k + 1, a :: x, [], out => if a.f0 = 2 then (if out.length < 4398046511104 then overL k x [] (out ++ [a]) else none) else none
  | k + 1, [], s :: y, out => if s.f0 = 2 then (span_Out.f s.f0 s.f1 s.f2).bind fun o => (if out.length < 4398046511104 then overL k [] y (out ++ [⟨1, o, ⟨#[]⟩⟩]) else none) else none
  | k + 1, a :: x, s :: y, out => if s.f0 = 2 then (span_Out.f s.f0 s.f1 s.f2).bind fun o => (if out.length < 4398046511104 then overL k (a :: x) y (out ++ [⟨1, o, ⟨#[]⟩⟩]) else none)
    else if a.f0 = 2 then (if out.length < 4398046511104 then overL k x (s :: y) (out ++ [a]) else none)
    else if s.f0 = 1 then (if out.length < 4398046511104 then overL k (lessL (a :: x) (mn a.f1 s.f1)) (lessL (s :: y) (mn a.f1 s.f1)) (out ++ [⟨a.f0, mn a.f1 s.f1, ⟨#[]⟩⟩]) else none)
    else overL k (lessL (a :: x) (mn a.f1 s.f1)) (lessL (s :: y) (mn a.f1 s.f1)) out
theorem overL.mono : ∀ (k : Nat) (x y out : List S26), LeO (overL k x y out) (overL (k + 1) x y out)
  | 0, _, _, _ => fun r h => by cases h
  | k + 1, [], [], out => LeO.refl _
  | k + 1, a :: x, [], out => by
    have ih := overL.mono k
    rw [overL, overL]
    split
    · split
      · exact ih _ _ _
      · exact LeO.refl _
    · exact LeO.refl _
  | k + 1, [], s :: y, out => by
    have ih := overL.mono k
    rw [overL, overL]
    split
    · refine LeO.bind (LeO.refl _) (fun o => ?_)
      split
      · exact ih _ _ _
      · exact LeO.refl _
    · exact LeO.refl _
  | k + 1, a :: x, s :: y, out => by
    have ih := overL.mono k
    rw [overL, overL]
    split
    · refine LeO.bind (LeO.refl _) (fun o => ?_)
      split
      · exact ih _ _ _
      · exact LeO.refl _
    · split
      · split
        · exact ih _ _ _
        · exact LeO.refl _
      · split
        · split
          · exact ih _ _ _
          · exact LeO.refl _
        · exact ih _ _ _
def over_Of.f (k : Nat) (l0 : List S26) (l1 : List S26) : Option (List S26 × Int) :=
  (op_May.f k l0).bind fun e0 => if e0 = 0 then (op_May.f k l1).bind fun e1 => if e1 = 0 then (op_In.f k l0).bind fun n => (op_In.f k l1).bind fun m => if n = m then
    (normal_Of.f k l0).bind fun x => (normal_Of.f k l1).bind fun y => (overL k x y []).bind fun out => (normal_Of.f k out).bind fun r => some (r, 0)
  else some ([], 5) else some ([], e1) else some ([], e0)
theorem over_Of.mono (l0 l1 : List S26) (k : Nat) : LeO (over_Of.f k l0 l1) (over_Of.f (k + 1) l0 l1) := by
  unfold over_Of.f
  refine LeO.bind (op_May.mono _ _) (fun e0 => ?_)
  split
  · refine LeO.bind (op_May.mono _ _) (fun e1 => ?_)
    split
    · refine LeO.bind (op_In.mono _ _) (fun n => LeO.bind (op_In.mono _ _) (fun m => ?_))
      split
      · exact LeO.bind (normal_Of.mono _ _) (fun x => LeO.bind (normal_Of.mono _ _) (fun y => LeO.bind (overL.mono _ _ _ _) (fun out => LeO.bind (normal_Of.mono _ _) (fun r => LeO.refl _))))
      · exact LeO.refl _
    · exact LeO.refl _
  · exact LeO.refl _
structure LessP (gl : Nat) (w : World) (A : Option Addr) (c : Nat) (l : List S26) (w' : World) : Prop where
  b : Below gl w w'
  z : w'.heap.size = w.heap.size
  o : ∀ k, k ≠ gl → w'.heap[k]? = w.heap[k]?
  r : RowAt w' A gl l
  lc : l.length ≤ c
  lm : c ≤ 9223372036854775807
set_option maxRecDepth 100000 in
set_option maxHeartbeats 4000000 in
theorem over_less.calls (gl c : Nat) (A : Option Addr) (s : S26) (r : List S26) (n : Int) (w : World) (hrow : RowAt w A gl (s :: r)) (lc : (s :: r).length ≤ c) (lm : c ≤ 9223372036854775807) :
  Calls Tryd.prog 50 #[.slice A (s :: r).length c, .int .i64 n] w fun e w' => ∃ (A' : Option Addr) (c' : Nat), e = .returned (.slice A' (lessL (s :: r) n).length c') ∧ LessP gl w A' c' (lessL (s :: r) n) w' := by
 obtain ⟨off, cur, rfl, hb, hc⟩ := hrow (by simp)
 have h1 := (blk_cell hb (off + 1)).trans (hc 0 s rfl).2.1
 have hf := blk_frozen hb (off + 1)
 obtain ⟨cur', hb', hc'⟩ := row_set1 (wrap64 (s.f1 - n)) hb hc
 have HB' := Aside0.mk hb'
 have HC' := Aside0.mk hc'
 have LC := Aside0.mk lc;have LM := Aside0.mk lm;have hbel := Aside0.mk ((Below.refl gl w).setCell (p := ⟨gl, off + 1, none⟩) (Nat.le_refl _) (.int .i64 (wrap64 (s.f1 - n))))
 have hoth : Aside0 (∀ k, k ≠ gl → (w.setCell ⟨gl, off + 1, none⟩ (.int .i64 (wrap64 (s.f1 - n)))).heap[k]? = w.heap[k]?) := ⟨fun k hk => Below.heap_setCell w ⟨gl, off + 1, none⟩ _ k hk⟩
 have hsz : Aside0 ((w.setCell ⟨gl, off + 1, none⟩ (.int .i64 (wrap64 (s.f1 - n)))).heap.size = w.heap.size) := ⟨by simp [World.setCell]⟩
 obtain ⟨i1, hi1, _, hsz1, _⟩ := info_parts info26
 have hcr := cut_from (P := Tryd.prog) 27 26 .i64 Tryd.underlying27 hi1 3 hsz1 (some ⟨gl, off, none⟩) (s :: r).length c 1 (by omega) (by rw [List.length_cons]; omega)
 rw [show ((1 : Int).toNat) = 1 from rfl, show (s :: r).length - 1 = r.length from rfl] at hcr
 obtain ⟨A2, hA2⟩ : ∃ A2, (if c = 1 then (some ⟨gl, off, none⟩ : Option Addr) else (some ⟨gl, off, none⟩ : Option Addr).map (·.add (1 * 3))) = A2 := ⟨_, rfl⟩
 rw [hA2] at hcr
 have HA2 := Aside0.mk hA2;rw [List.length_cons] at hcr ⊢
 clear hb hc hb' hc' lc lm hrow hA2 hi1 hsz1;by_cases hz : wrap64 (s.f1 - n) = 0
 ·have d1 : (wrap64 (s.f1 - n) == 0) = true := by simp [hz]
  have HZ := Aside0.mk hz;clear hz;go_enter Tryd.func50, Tryd.ntmps50
  go_wp2
  go_ret
  rw [lessL, if_pos HZ.out]
  have lc2 := LC.out;rw [List.length_cons] at lc2
  refine ⟨A2, c - 1, rfl, hbel.out, hsz.out, hoth.out, ?_, by omega, by have := LM.out; omega⟩
  have := row_tail (c := c) (fun _ => ⟨off, cur', rfl, HB'.out, HC'.out⟩) LC.out
  rw [HA2.out] at this
  exact this
 ·have d1 : (wrap64 (s.f1 - n) == 0) = false := by simp [hz]
  have HZ := Aside0.mk hz;clear hz;go_enter Tryd.func50, Tryd.ntmps50
  go_wp2
  go_ret
  rw [lessL, if_neg HZ.out]
  exact ⟨_, _, rfl, hbel.out, hsz.out, hoth.out, fun _ => ⟨off, cur', rfl, HB'.out, HC'.out⟩, LC.out, LM.out⟩
theorem over_less.callsN (gl c : Nat) (A : Option Addr) (s : S26) (r : List S26) (m : Nat) (hm : r.length = m) (n : Int) (w : World) (hrow : RowAt w A gl (s :: r)) (lc : (s :: r).length ≤ c) (lm : c ≤ 9223372036854775807) :
  Calls Tryd.prog 50 #[.slice A (m + 1) c, .int .i64 n] w fun e w' => ∃ (A' : Option Addr) (c' : Nat), e = .returned (.slice A' (lessL (s :: r) n).length c') ∧ LessP gl w A' c' (lessL (s :: r) n) w' := by
 subst hm
 exact over_less.calls gl c A s r n w hrow lc lm
set_option maxRecDepth 100000 in
set_option maxHeartbeats 4000000 in
theorem over_defer.calls (k g : Nat) (v : Value) (l r : List S26) (w0 w : World) (hB : Below w0.heap.size w0 w) (hg : w0.heap.size ≤ g) (hc : w.heap[g]? = some (.cells #[v] 27 (0, 0))) (ho : Kd.R k26 26 w w0.heap.size (fun _ => True) v l) (h : normal_Of.f k l = some r) :
  CallsD Tryd.prog 48 #[.pointer (some ⟨g, 0, none⟩)] .returning w fun e u' w' => u' = .returning ∧ (e = .returned (.tuple #[]) ∧ ∃ v1 : Value, w'.cell? ⟨g, 0, none⟩ = some v1 ∧ Kd.R k26 26 w' w0.heap.size (fun _ => True) v1 r ∧ Below w0.heap.size w0 w') := by
 obtain ⟨A, c, rfl⟩ := Kd.R_slice ho
 obtain ⟨_, hcv, hC⟩ := Kd.R_reads' ho
 have c0 := (blk_cell hc 0).trans (show _ = some (Value.slice A l.length c) from rfl)
 have HCV := Aside0.mk hcv;have HCC := Aside0.mk hC;have HB := Aside0.mk hB;have HG := Aside0.mk hg;have HC := Aside0.mk hc;have H := Aside0.mk h;clear hcv hC hB hg hc h ho;go_enter_d Tryd.func48, Tryd.ntmps48
 go_wp2_with (go_at_call 19; (with_reducible refine (normal_Of.calls k _ _ l r _ HCC.out HCV.out H.out).mono ?_); rintro e W1 ⟨v1, rfl, hv1, hb⟩; obtain ⟨A1, c1, rfl⟩ := Kd.R_slice hv1; have HV1 := Aside0.mk hv1; have HB5 := Aside0.mk hb; have HCB := Aside0.mk (blk_below HC.out hb); have fz := blk_frozen (blk_below HC.out hb) 0; have cz := (blk_cell (blk_below HC.out hb) 0).trans (show _ = some (Value.slice A l.length c) from rfl); clear hv1 hb)
 go_end0
 exact ⟨rfl, _, (blk_cell (blk_put HCB.out 0 _ rfl) 0).trans rfl, Kd.R_set (R_low HB.out.size HV1.out) HCB.out (by decide) 0 _, (below_step HB.out HB5.out).setCell (p := ⟨g, 0, none⟩) HG.out _⟩
structure OvS (w0 W : World) (gL glx gly cx cy : Nat) (A B : Option Addr) (x y out : List S26) (v : Value) : Prop where
 b : Below w0.heap.size w0 W
 rx : RowAt W A glx x
 ry : RowAt W B gly y
 hx : 0 < x.length → w0.heap.size ≤ glx
 hy : 0 < y.length → w0.heap.size ≤ gly
 xc : x.length ≤ cx
 xm : cx ≤ 9223372036854775807
 yc : y.length ≤ cy
 ym : cy ≤ 9223372036854775807
 n : 0 < x.length → 0 < y.length → glx ≠ gly
 c : W.heap[gL]? = some (.cells #[v] 27 (0, 0))
 hL : w0.heap.size ≤ gL
 o : Kd.R k26 26 W w0.heap.size (fun _ => True) v out
 nx : 0 < x.length → some glx ≠ v.ownBlock
 ny : 0 < y.length → some gly ≠ v.ownBlock
theorem RowAt.keep {W W' : World} {A : Option Addr} {gl : Nat} {l : List S26} (h : RowAt W A gl l) (hk : 0 < l.length → W'.heap[gl]? = W.heap[gl]?) : RowAt W' A gl l := fun hp => by
 obtain ⟨o, cur, e1, e2, e3⟩ := h hp
 exact ⟨o, cur, e1, (hk hp).trans e2, e3⟩
theorem RowAt.lt {W : World} {A : Option Addr} {gl : Nat} {l : List S26} (h : RowAt W A gl l) (hp : 0 < l.length) : gl < W.heap.size := by
 obtain ⟨_, _, _, e, _⟩ := h hp
 exact blk_lt e
theorem OvS.swap {w0 W : World} {gL glx gly cx cy : Nat} {A B : Option Addr} {x y out : List S26} {v : Value} (h : OvS w0 W gL glx gly cx cy A B x y out v) : OvS w0 W gL gly glx cy cx B A y x out v :=
 ⟨h.b, h.ry, h.rx, h.hy, h.hx, h.yc, h.ym, h.xc, h.xm, fun a b e => h.n b a e.symm, h.c, h.hL, h.o, h.ny, h.nx⟩
theorem OvS.below {w0 W W' : World} {gL glx gly cx cy : Nat} {A B : Option Addr} {x y out : List S26} {v : Value} (h : OvS w0 W gL glx gly cx cy A B x y out v) (hb : Below W.heap.size W W') : OvS w0 W' gL glx gly cx cy A B x y out v :=
 ⟨below_step h.b hb, h.rx.keep (fun hp => hb.block _ (h.rx.lt hp)), h.ry.keep (fun hp => hb.block _ (h.ry.lt hp)), h.hx, h.hy, h.xc, h.xm, h.yc, h.ym, h.n, blk_below h.c hb, h.hL, Kd.R_below h.o hb, h.nx, h.ny⟩
theorem OvS.far {w0 W : World} {gL glx gly cx cy : Nat} {A B : Option Addr} {x y out : List S26} {v : Value} (h : OvS w0 W gL glx gly cx cy A B x y out v) (hp : 0 < x.length) : glx ≠ gL := by
 obtain ⟨_, _, _, e, _⟩ := h.rx hp
 exact blk_ne e h.c (by decide)
theorem OvS.less {w0 W W' : World} {gL glx gly cx cy cx' : Nat} {A B A' : Option Addr} {x x' y out : List S26} {v : Value} (h : OvS w0 W gL glx gly cx cy A B x y out v) (hp : 0 < x.length) (hl : LessP glx W A' cx' x' W') : OvS w0 W' gL glx gly cx' cy A' B x' y out v :=
 ⟨h.b.trans (hl.b.mono (h.hx hp)), hl.r, h.ry.keep (fun hq => hl.o _ (fun e => h.n hp hq e.symm)), fun _ => h.hx hp, h.hy, hl.lc, hl.lm, h.yc, h.ym, fun _ hq => h.n hp hq, (hl.o _ (fun e => h.far hp e.symm)).trans h.c, h.hL, R_any (Kd.R_step (R_own_only h.o) (fun k hk _ => hl.o k (fun e => by subst e; exact h.nx hp hk))), fun _ => h.nx hp, h.ny⟩
theorem OvS.tail {w0 W : World} {gL glx gly cx cy : Nat} {A B A' : Option Addr} {s : S26} {x y out : List S26} {v : Value} (h : OvS w0 W gL glx gly cx cy A B (s :: x) y out v) (e : (if cx = 1 then A else A.map (·.add (1 * 3))) = A') : OvS w0 W gL glx gly (cx - 1) cy A' B x y out v :=
 ⟨h.b, by rw [← e]; exact row_tail h.rx h.xc, h.ry, fun _ => h.hx (by simp), h.hy, by have := h.xc; rw [List.length_cons] at this; omega, by have := h.xm; omega, h.yc, h.ym, fun _ hq => h.n (by simp) hq, h.c, h.hL, h.o, fun _ => h.nx (by simp), h.ny⟩
theorem OvS.append {w0 W w1 : World} {gL glx gly cx cy : Nat} {A B : Option Addr} {x y out out' : List S26} {v v1 : Value} (h : OvS w0 W gL glx gly cx cy A B x y out v) (ho : Kd.R k26 26 w1 w0.heap.size (fun _ => True) v1 out') (hb : Below w0.heap.size w0 w1) (hg : W.grownBy w1 v.ownBlock) (hat : v1.ownBlock = v.ownBlock ∨ ∃ b, v1.ownBlock = some b ∧ W.heap.size ≤ b) :
  OvS w0 (w1.setCell ⟨gL, 0, none⟩ v1) gL glx gly cx cy A B x y out' v1 := by
 have away : ∀ k, k < W.heap.size → some k ≠ v.ownBlock → some k ≠ v1.ownBlock := by
  intro k hk hn e;rcases hat with e1 | ⟨b, e1, hb⟩
  ·exact hn (e.trans e1)
  ·rw [e1] at e
   injection e with e
   omega
 have hc1 : w1.heap[gL]? = some (.cells #[v] 27 (0, 0)) := (hg.block gL (blk_lt h.c) (Kd.R_ne h.o h.c (by decide))).trans h.c
 have keep : ∀ k, k < W.heap.size → k ≠ gL → some k ≠ v.ownBlock → (w1.setCell ⟨gL, 0, none⟩ v1).heap[k]? = W.heap[k]? := fun k hk h1 h2 => (Below.heap_setCell w1 ⟨gL, 0, none⟩ v1 k h1).trans (hg.block k hk h2)
 exact ⟨hb.setCell (p := ⟨gL, 0, none⟩) h.hL _, h.rx.keep (fun hp => keep _ (h.rx.lt hp) (h.far hp) (h.nx hp)), h.ry.keep (fun hp => keep _ (h.ry.lt hp) (h.swap.far hp) (h.ny hp)), h.hx, h.hy, h.xc, h.xm, h.yc, h.ym, h.n, blk_put hc1 0 _ rfl, h.hL, Kd.R_set ho hc1 (by decide) 0 _, fun hp => away _ (h.rx.lt hp) (h.nx hp), fun hp => away _ (h.ry.lt hp) (h.ny hp)⟩
theorem OvS.box {w0 W w1 : World} {gL glx gly cx cy : Nat} {A B : Option Addr} {x y out : List S26} {v : Value} (h : OvS w0 W gL glx gly cx cy A B x y out v) (hg : W.grownBy w1 v.ownBlock) : w1.heap[gL]? = some (.cells #[v] 27 (0, 0)) := (hg.block gL (blk_lt h.c) (Kd.R_ne h.o h.c (by decide))).trans h.c
set_option maxHeartbeats 40000000 in
set_option maxRecDepth 100000 in
theorem over_Of.calls (k : Nat) (A0 : Option Addr) (c0 : Nat) (l0 : List S26) (A1 : Option Addr) (c1 : Nat) (l1 : List S26) (r1 : List S26) (r2 : Int) (w : World) (hG : Glob w) (hr0 : Kd.C k26 w A0 l0.length l0) (hc0 : l0.length ≤ c0) (hr1 : Kd.C k26 w A1 l1.length l1) (hc1 : l1.length ≤ c1) (h : over_Of.f k l0 l1 = some (r1, r2)) :
  Calls Tryd.prog 15 #[.slice A0 l0.length c0, .slice A1 l1.length c1] w fun e w' => ∃ v0_ : Value, e = .returned (.tuple #[v0_, .int .i64 r2]) ∧ Kd.R k26 26 w' w.heap.size (fun _ => True) v0_ r1 ∧ Below w.heap.size w w' := by
 have HG := Aside0.mk hG;have HR0 := Aside0.mk hr0;have HC0 := Aside0.mk hc0;have HR1 := Aside0.mk hr1;have HC1 := Aside0.mk hc1;have H := Aside0.mk h;have HM : Aside0 (l0.length ≤ 9223372036854775807 ∧ l1.length ≤ 9223372036854775807) := ⟨hr0.2.1, hr1.2.1⟩
 clear hG hr0 hc0 hr1 hc1 h;go_enter_defers Tryd.func15, Tryd.ntmps15
 obtain ⟨ie, hie, hi1, hi2⟩ := info_rows
 have HIE := Aside0.mk hie;have HI1 := Aside0.mk hi1;have HI2 := Aside0.mk hi2;clear hie hi1 hi2;go_wp2_with (refine wpList_buildSlice rfl 39 27 2 _ rfl #[.slice A0 l0.length c0, .slice A1 l1.length c1] ie (.slice none 0 0) (by kernel_rfl) HIE.out HI2.out (by rw [HI1.out]; decide) (by rw [HI1.out]; decide) (fill_two A0 A1 l0.length c0 l1.length c1 ie.size HI1.out) ?_)
 have hsz : ((w.alloc (.cells #[.slice none 0 0] 27)).alloc (.cells #[.slice A0 l0.length c0, .slice A1 l1.length c1] 27)).heap.size = w.heap.size + 1 + 1 := by rw [size_alloc, size_alloc]
 have HBX0 : Aside0 (((w.alloc (.cells #[.slice none 0 0] 27)).alloc (.cells #[.slice A0 l0.length c0, .slice A1 l1.length c1] 27)).heap[w.heap.size]? = some (.cells #[.slice none 0 0] 27 (0, 0))) := ⟨blk_alloc (blk_new w _) _⟩
 have HBK0 : Aside0 (((w.alloc (.cells #[.slice none 0 0] 27)).alloc (.cells #[.slice A0 l0.length c0, .slice A1 l1.length c1] 27)).heap[w.heap.size + 1]? = some (.cells #[.slice A0 l0.length c0, .slice A1 l1.length c1] 27 (0, 0))) := ⟨by
  have := blk_new (w.alloc (.cells #[.slice none 0 0] 27)) (.cells #[.slice A0 l0.length c0, .slice A1 l1.length c1] 27)
  rwa [size_alloc] at this⟩
 have HB0 := Aside0.mk (below_alloc (below_alloc (Below.refl w.heap.size w) (.cells #[.slice none 0 0] 27)) (.cells #[.slice A0 l0.length c0, .slice A1 l1.length c1] 27))
 have HSZ := Aside0.mk hsz;clear hsz;go_loopg [14] 2 (fun kq v14 w' => MayI k l0 l1 kq v14 ∧ Aside0 (Below w.heap.size w w') ∧ Aside0 (w'.heap[w.heap.size]? = some (.cells #[.slice none 0 0] 27 (0, 0))) ∧ Aside0 (w'.heap[w.heap.size + 1]? = some (.cells #[.slice A0 l0.length c0, .slice A1 l1.length c1] 27 (0, 0))))
 case atStart => exact ⟨.inl ⟨rfl, rfl⟩, HB0, HBX0, HBK0⟩
 case round =>
  clear HB0 HBX0 HBK0 HIE HI1 HI2 HSZ;obtain ⟨hm, HBW, HBX, HBL⟩ := hrel
  rcases hm with ⟨rfl, rfl⟩ | ⟨rfl, rfl, hm0⟩ | ⟨rfl, rfl, hm0, hm1⟩
  ·obtain ⟨e0, he0, hrest⟩ := Option.bind_eq_some_iff.1 (show (op_May.f k l0).bind _ = _ from H.out)
   have cell0 : wr.cell? ⟨w.heap.size + 1, 0, none⟩ = some (.slice A0 l0.length c0) := (blk_cell HBL.out 0).trans rfl
   have HE := Aside0.mk he0;by_cases hz : e0 = 0
   ·subst hz
    clear hrest he0;go_wp2_with (go_at_call 47; (with_reducible refine (op_May.calls k _ _ l0 0 _ (HG.out.below HBW.out) (Kd.C_below HR0.out HBW.out) HC0.out HE.out).mono ?_); rintro e w1 ⟨rfl, hb⟩; have HB1 := Aside0.mk hb; clear hb)
    go_roundg 1
    case measure => decide
    case rel => exact ⟨.inr (.inl ⟨rfl, rfl, HE.out⟩), ⟨below_step HBW.out HB1.out⟩, ⟨blk_below HBX.out HB1.out⟩, ⟨blk_below HBL.out HB1.out⟩⟩
   ·rw [if_neg hz] at hrest
    obtain ⟨rfl, rfl⟩ : [] = r1 ∧ e0 = r2 := by simpa using hrest
    have d1 : (e0 != 0) = true := by simp [hz]
    clear hrest he0 hz;go_wp2_with (go_at_call 47; (with_reducible refine (op_May.calls k _ _ l0 e0 _ (HG.out.below HBW.out) (Kd.C_below HR0.out HBW.out) HC0.out HE.out).mono ?_); rintro e w1 ⟨rfl, hb⟩; have HB1 := Aside0.mk hb; have cb := (blk_cell (blk_below HBX.out hb) 0).trans (show _ = some (Value.slice none 0 0) from rfl); have fb := blk_frozen (blk_below HBX.out hb) 0; clear hb)
    have cz := (blk_cell (blk_put (blk_below HBX.out HB1.out) 0 (.slice none 0 0) rfl) 0).trans (show _ = some (Value.slice none 0 0) from rfl)
    try rw [Exit.noGoto_ret]
    refine ⟨.tuple #[.slice none 0 0, .int .i64 e0], by simp [results, Tryd.results15, Tryd.f15, go_sem, cz], _, rfl, Kd.R_nil _ _ _ _ _, (below_step HBW.out HB1.out).setCell (p := ⟨w.heap.size, 0, none⟩) (Nat.le_refl _) _⟩
  ·obtain ⟨e0, he0, hrest⟩ := Option.bind_eq_some_iff.1 (show (op_May.f k l0).bind _ = _ from H.out)
   obtain rfl : e0 = 0 := by rw [hm0] at he0; exact (Option.some.inj he0).symm
   rw [if_pos rfl] at hrest
   obtain ⟨e1, he1, hrest⟩ := Option.bind_eq_some_iff.1 hrest
   have cell1 : wr.cell? ⟨w.heap.size + 1, 1, none⟩ = some (.slice A1 l1.length c1) := (blk_cell HBL.out 1).trans rfl
   have HE0 := Aside0.mk he0;have HE := Aside0.mk he1;by_cases hz : e1 = 0
   ·subst hz
    clear hrest he1 he0 hm0;go_wp2_with (go_at_call 47; (with_reducible refine (op_May.calls k _ _ l1 0 _ (HG.out.below HBW.out) (Kd.C_below HR1.out HBW.out) HC1.out HE.out).mono ?_); rintro e w1 ⟨rfl, hb⟩; have HB1 := Aside0.mk hb; clear hb)
    go_roundg 0
    case measure => decide
    case rel => exact ⟨.inr (.inr ⟨rfl, rfl, HE0.out, HE.out⟩), ⟨below_step HBW.out HB1.out⟩, ⟨blk_below HBX.out HB1.out⟩, ⟨blk_below HBL.out HB1.out⟩⟩
   ·rw [if_neg hz] at hrest
    obtain ⟨rfl, rfl⟩ : [] = r1 ∧ e1 = r2 := by simpa using hrest
    have d1 : (e1 != 0) = true := by simp [hz]
    clear hrest he1 he0 hm0 hz;go_wp2_with (go_at_call 47; (with_reducible refine (op_May.calls k _ _ l1 e1 _ (HG.out.below HBW.out) (Kd.C_below HR1.out HBW.out) HC1.out HE.out).mono ?_); rintro e w1 ⟨rfl, hb⟩; have HB1 := Aside0.mk hb; have cb := (blk_cell (blk_below HBX.out hb) 0).trans (show _ = some (Value.slice none 0 0) from rfl); have fb := blk_frozen (blk_below HBX.out hb) 0; clear hb)
    have cz := (blk_cell (blk_put (blk_below HBX.out HB1.out) 0 (.slice none 0 0) rfl) 0).trans (show _ = some (Value.slice none 0 0) from rfl)
    try rw [Exit.noGoto_ret]
    refine ⟨.tuple #[.slice none 0 0, .int .i64 e1], by simp [results, Tryd.results15, Tryd.f15, go_sem, cz], _, rfl, Kd.R_nil _ _ _ _ _, (below_step HBW.out HB1.out).setCell (p := ⟨w.heap.size, 0, none⟩) (Nat.le_refl _) _⟩
  ·obtain ⟨e0, he0, hrest⟩ := Option.bind_eq_some_iff.1 (show (op_May.f k l0).bind _ = _ from H.out)
   obtain rfl : e0 = 0 := by rw [hm0] at he0; exact (Option.some.inj he0).symm
   rw [if_pos rfl] at hrest
   obtain ⟨e1, he1, hrest⟩ := Option.bind_eq_some_iff.1 hrest
   obtain rfl : e1 = 0 := by rw [hm1] at he1; exact (Option.some.inj he1).symm
   rw [if_pos rfl] at hrest
   obtain ⟨n, hn, hrest⟩ := Option.bind_eq_some_iff.1 hrest
   obtain ⟨m, hm, hrest⟩ := Option.bind_eq_some_iff.1 hrest
   have HN := Aside0.mk hn;have HMM := Aside0.mk hm;clear he0 he1 hm0 hm1 hn hm HBL;by_cases hz : n = m
   ·subst hz
    rw [if_pos rfl] at hrest
    obtain ⟨lx, hx, hrest⟩ := Option.bind_eq_some_iff.1 hrest
    obtain ⟨ly, hy, hrest⟩ := Option.bind_eq_some_iff.1 hrest
    obtain ⟨out, ho, hrest⟩ := Option.bind_eq_some_iff.1 hrest
    obtain ⟨r, hr, hrest⟩ := Option.bind_eq_some_iff.1 hrest
    obtain ⟨rfl, rfl⟩ : r = r1 ∧ 0 = r2 := by simpa using hrest
    have HX := Aside0.mk hx;have HY := Aside0.mk hy;have HO := Aside0.mk ho;have HRR := Aside0.mk hr;clear hx hy ho hr hrest;have hmf : ∀ (fn : Fn) (first cap : Array Value) (w : World), (Instr.makeFunc fn first cap).run Tryd.prog w = .ok (.func fn first cap) w := fun _ _ _ _ => rfl
    go_wp2_with (first | (go_at_call 45; (with_reducible refine (op_In.calls k _ _ l0 n _ (HG.out.below HBW.out) (Kd.C_below HR0.out HBW.out) HC0.out HN.out).mono ?_); rintro e w1 ⟨rfl, hb⟩; have HB1 := Aside0.mk (below_step HBW.out hb); have HX1 := Aside0.mk (blk_below HBX.out hb); clear hb) | (go_at_call 45; (with_reducible refine (op_In.calls k _ _ l1 n _ (HG.out.below HB1.out) (Kd.C_below HR1.out HB1.out) HC1.out HMM.out).mono ?_); rintro e w2 ⟨rfl, hb⟩; have HB2 := Aside0.mk (below_step HB1.out hb); have HX2 := Aside0.mk (blk_below HX1.out hb); clear hb) | (go_at_call 19; (with_reducible refine (normal_Of.calls k _ _ l0 lx _ (Kd.C_below HR0.out HB2.out) HC0.out HX.out).mono ?_); rintro e w3 ⟨vx, rfl, hvx, hb⟩; obtain ⟨glx, cx, Ax, rfl, lcx, lmx, rowx, hglx⟩ := row_own hvx; have HVX := Aside0.mk (And.intro lcx (And.intro lmx (And.intro rowx hglx))); have HB3 := Aside0.mk (below_step HB2.out hb); have HX3 := Aside0.mk (blk_below HX2.out hb); have HS3 := Aside0.mk hb.size; clear hb lcx lmx rowx hglx hvx) | (go_at_call 19; (with_reducible refine (normal_Of.calls k _ _ l1 ly _ (Kd.C_below HR1.out HB3.out) HC1.out HY.out).mono ?_); rintro e w4 ⟨vy, rfl, hvy, hb⟩; obtain ⟨gly, cy, Ay, rfl, lcy, lmy, rowy, hgly⟩ := row_own hvy; have HVY := Aside0.mk (And.intro lcy (And.intro lmy (And.intro rowy hgly))); have HB4 := Aside0.mk (below_step HB3.out hb); have HX4 := Aside0.mk (blk_below HX3.out hb); have HB34 := Aside0.mk hb; clear hb lcy lmy rowy hgly hvy))
    have ST0 : Aside0 (OvS w w4 w.heap.size glx gly cx cy Ax Ay lx ly [] (.slice none 0 0)) := ⟨by
     obtain ⟨x1, x2, x3, x4⟩ := HVX.out
     obtain ⟨y1, y2, y3, y4⟩ := HVY.out
     have z2 := HB2.out.size
     have z3 := HB3.out.size
     exact ⟨HB4.out, x3.keep (fun hp => HB34.out.block _ (x3.lt hp)), y3, fun hp => Nat.le_trans z2 (x4 hp), fun hp => Nat.le_trans z3 (y4 hp), x1, x2, y1, y2, fun hp hq e => by have := x3.lt hp; have := y4 hq; omega, HX4.out, Nat.le_refl _, Kd.R_nil _ _ _ _ _, fun _ e => by simp [Value.ownBlock] at e, fun _ e => by simp [Value.ownBlock] at e⟩⟩
    clear HVX HVY HX1 HX2 HX3 HX4 HB34 HS3 HB1 HB2 HB3 HX HY HN HMM HBX HBW H hmf HR0 HR1 HC0 HC1 HM;go_loopg [0, 1] k (fun kq v0 v1 w' => ∃ (glx gly cx cy : Nat) (A B : Option Addr) (x y o : List S26) (v : Value), v0 = .slice A x.length cx ∧ v1 = .slice B y.length cy ∧ Aside0 (OvS w w' w.heap.size glx gly cx cy A B x y o v) ∧ Aside0 (overL kq x y o = some out))
    case atStart => exact ⟨glx, gly, cx, cy, Ax, Ay, lx, ly, [], _, rfl, rfl, ST0, HO⟩
    case round =>
     clear ST0 HO HB4;obtain ⟨glx, gly, cx, cy, A, B, x, y, o, v, hv0, hv1, ST, HC⟩ := hrel
     have hc := HC.out;cases gk with
     | zero => simp [overL] at hc
     | succ kq =>
      obtain ⟨Av, cv, rfl⟩ := Kd.R_slice ST.out.o
      have cL := (blk_cell ST.out.c 0).trans (show _ = some (Value.slice Av o.length cv) from rfl)
      have fL := blk_frozen ST.out.c 0
      have HXM : Aside0 (cx ≤ 9223372036854775807 ∧ cy ≤ 9223372036854775807) := ⟨ST.out.xm, ST.out.ym⟩
      cases y with
      | nil =>
       cases x with
       | nil =>
        subst hv0 hv1
        have hoo : o = out := by simpa [overL] using hc
        subst hoo
        clear hc HC;go_wp2
        refine leaves_cons (f := 48) (args := #[.pointer (some ⟨w.heap.size, 0, none⟩)]) (by simp) (by simp [go_sem]) ?_
        refine (over_defer.calls k w.heap.size (.slice Av o.length cv) o r w _ (ST.out.b.setCell (p := ⟨w.heap.size, 0, none⟩) (Nat.le_refl _) _) (Nat.le_refl _) (blk_put ST.out.c 0 _ rfl) (Kd.R_set ST.out.o ST.out.c (by decide) 0 _) HRR.out).mono ?_
        rintro e u' w'' ⟨rfl, rfl, v1, hcell, hR, hb⟩
        exact ⟨.tuple #[v1, .int .i64 0], by simp [results, Tryd.results15, Tryd.f15, go_sem, hcell], _, rfl, hR, hb⟩
       | cons a x =>
        by_cases ha2 : a.f0 = 2
        ·have d2x : (a.f0 == 2) = true := by simp [ha2]
         obtain ⟨offx, curx, hBx, hbx, hcsx⟩ := ST.out.rx (by simp)
         obtain ⟨q0x, q1x, q2x⟩ := hcsx 0 a rfl
         have s0x := (blk_cell hbx offx).trans q0x
         have s1x := (blk_cell hbx (offx + 1)).trans q1x
         have s2x := (blk_cell hbx (offx + 2)).trans q2x
         have HBKx := Aside0.mk hbx;have QQx := Aside0.mk (And.intro q0x (And.intro q1x q2x))
         obtain ⟨nx, hnx⟩ : ∃ n, x.length = n := ⟨_, rfl⟩
         have HNx := Aside0.mk hnx;rw [List.length_cons, hnx] at hv0
         have d0x : decide ((0 : Int) < ((nx + 1 : Nat) : Int)) = true := decide_eq_true (by omega)
         clear q0x q1x q2x hcsx hbx hnx;subst hv0 hv1 hBx
         rw [overL, if_pos ha2] at hc
         split at hc
         ·next hlt =>
          have HC2 := Aside0.mk hc;have HLT := Aside0.mk hlt;clear hc hlt HC ha2;go_wp2
          have STD := Aside0.mk (ST.out.below (below_drew1 (Below.refl _ _)))
          refine wp_region_noPanic ?_
          refine start_ (n := 7) (S := fun w' => w'.cell? ⟨w.heap.size, 0, none⟩ = some (.slice Av o.length cv) ∧ w'.cell? ⟨glx, offx, none⟩ = some (.int .i64 a.f0) ∧ w'.cell? ⟨glx, offx + 1, none⟩ = some (.int .i64 a.f1) ∧ w'.cell? ⟨glx, offx + 2, none⟩ = some (.string a.f2)) (ds := [6]) #[false, false, false, false, false, false, false] (by kernel_rfl) rfl rfl ⟨((blk_cell STD.out.c 0).trans (show _ = some (Value.slice Av o.length cv) from rfl)), ((blk_cell (blk_drew HBKx.out) offx).trans QQx.out.1), ((blk_cell (blk_drew HBKx.out) (offx + 1)).trans QQx.out.2.1), ((blk_cell (blk_drew HBKx.out) (offx + 2)).trans QQx.out.2.2)⟩ (fun hHeld => ?_)
          refine pure_ (i := 1) (N := some 104) (v := ?_) (a' := ?_) #[false, true, false, false, false, false, false] rfl rfl (by kernel_rfl) (fun _ _ _ h => h) (Or.inl ⟨by rfl, ?_⟩) ?_ ?_
          rotate_left
          ·intro w'
           go_simp;with_reducible rfl
          rotate_left
          ·simp only [Act.put, zS, i64_w, i32_w]
           rfl
          refine pure_ (i := 2) (N := some 105) (v := ?_) (a' := ?_) #[false, true, true, false, false, false, false] rfl rfl (by kernel_rfl) (fun _ _ _ h => h) (Or.inl ⟨by rfl, ?_⟩) ?_ ?_
          rotate_left
          ·intro w'
           go_simp;with_reducible rfl
          rotate_left
          ·simp only [Act.put, zS, i64_w, i32_w]
           rfl
          refine take_ (i := 0) (N := some 103) (v := ?_) (a' := ?_) #[true, true, true, false, false, false, false] rfl rfl (by kernel_rfl) (fun _ _ _ h => h) (Or.inl ⟨by rfl, ?_⟩) hHeld ?_ ?_
          rotate_left
          ·rintro w' ⟨s0, s1, s2, s3⟩
           go_simp;with_reducible rfl
          rotate_left
          ·simp only [Act.put, zS, i64_w, i32_w]
           rfl
          refine take_ (i := 3) (N := some 106) (v := ?_) (a' := ?_) #[true, true, true, true, false, false, false] rfl rfl (by kernel_rfl) (fun _ _ _ h => h) (Or.inl ⟨by rfl, ?_⟩) hHeld ?_ ?_
          rotate_left
          ·rintro w' ⟨s0, s1, s2, s3⟩
           go_simp;with_reducible rfl
          rotate_left
          ·simp only [Act.put, zS, i64_w, i32_w]
           rfl
          refine one_ (i := 4) (N := some 107) #[true, true, true, true, true, false, false] rfl rfl (by kernel_rfl) (by decide) (fun K hK => ?_)
          refine value_ (w1 := ?_) (v := ?_) (by rfl) rfl ?_ ?_
          rotate_left 2
          ·go_simp;constructor
           ·rfl
           ·rfl
          refine hK.out _ _ ⟨((blk_cell (blk_alloc STD.out.c _) 0).trans (show _ = some (Value.slice Av o.length cv) from rfl)), ((blk_cell (blk_alloc (blk_drew HBKx.out) _) offx).trans QQx.out.1), ((blk_cell (blk_alloc (blk_drew HBKx.out) _) (offx + 1)).trans QQx.out.2.1), ((blk_cell (blk_alloc (blk_drew HBKx.out) _) (offx + 2)).trans QQx.out.2.2)⟩ (fun hHeld => ?_)
          clear hK K;refine norm_ (a' := ?_) ?_ ?_
          rotate_left
          ·show Act.put _ (some 107) _ = _
           simp only [Act.put, zS, i64_w, i32_w]
           rfl
          refine one_ (i := 5) (N := some 108) #[true, true, true, true, true, true, false] rfl rfl (by kernel_rfl) (by decide) (fun K hK => ?_)
          refine Kd.R_append_step k26 (w0 := w) w.heap.size (by rfl) (.tmp 103) (.tmp 107) 27 26 (.agg #[.int .i64 0, .int .i64 0, .string ⟨#[]⟩]) 32 (by rfl) Tryd.underlying27 info26 rfl (by decide) (by omega) _ o a [.int .i64 a.f0, .int .i64 a.f1, .string a.f2] (fun _ => True) (fun _ => False) (by rfl) (by rfl) (k26_mkM _ _ _ a) (fun _ hk => hk.elim) (fun _ _ => trivial) STD.out.o STD.out.b STD.out.b.size (by have := HLT.out; omega) ?_
          intro v1 w5 ho1 hb1 hg1 hat1;have BX5 := Aside0.mk (OvS.box STD.out hg1)
          have cx5 := (blk_cell BX5.out 0).trans (show _ = some (Value.slice Av o.length cv) from rfl)
          have fx5 := blk_frozen BX5.out 0;have BR5 := (hg1.block glx (blk_lt (blk_drew HBKx.out)) (STD.out.nx (by simp))).trans (blk_drew HBKx.out)
          have STF := Aside0.mk (OvS.append STD.out ho1 hb1 hg1 hat1)
          obtain ⟨Aw, cw, rfl⟩ := Kd.R_slice ho1
          rw [List.length_append, List.length_singleton] at STF ⊢
          clear ho1 hb1 hg1 hat1;refine hK.out _ _ ⟨cx5, (blk_cell BR5 offx).trans QQx.out.1, (blk_cell BR5 (offx + 1)).trans QQx.out.2.1, (blk_cell BR5 (offx + 2)).trans QQx.out.2.2⟩ (fun hHeld => ?_)
          clear hK K;refine norm_ (a' := ?_) ?_ ?_
          rotate_left
          ·show Act.put _ (some 108) _ = _
           simp only [Act.put, zS, i64_w, i32_w]
           rfl
          refine last_ (i := 6) (N := none) #[true, true, true, true, true, true, true] rfl rfl (by kernel_rfl) (by decide) (fun K hK => ?_)
          refine skip_ (w1 := ?_) (by rfl) rfl ?_ ?_
          rotate_left
          ·go_simp;rfl
          refine hK.out _ _ ?_
          clear hK K;refine done_ (by kernel_rfl) ?_
          refine NoPanic.normal ?_
          clear cL fL s0x s1x s2x;obtain ⟨i1, hi1, _, hsz1, _⟩ := info_parts info26
          have hcr := cut_from (P := Tryd.prog) 27 26 .i64 Tryd.underlying27 hi1 3 hsz1 (some ⟨glx, offx, none⟩) (nx + 1) cx 1 (by omega) (by omega)
          rw [show ((1 : Int).toNat) = 1 from rfl, show nx + 1 - 1 = nx from rfl] at hcr
          obtain ⟨A2, hA2⟩ : ∃ A2, (if cx = 1 then (some ⟨glx, offx, none⟩ : Option Addr) else (some ⟨glx, offx, none⟩ : Option Addr).map (·.add (1 * 3))) = A2 := ⟨_, rfl⟩
          rw [hA2] at hcr
          have HA2 := Aside0.mk hA2;clear hA2 hi1 hsz1;go_wp2
          go_roundg kq
          case measure => omega
          case rel => exact ⟨glx, gly, cx - 1, cy, A2, _, x, [], _, _, by rw [HNx.out], rfl, ⟨STF.out.tail HA2.out⟩, HC2⟩
         ·cases hc
        ·rw [overL, if_neg ha2] at hc
         cases hc
      | cons s y =>
       obtain ⟨offy, cury, hBy, hby, hcsy⟩ := ST.out.ry (by simp)
       obtain ⟨q0y, q1y, q2y⟩ := hcsy 0 s rfl
       have s0y := (blk_cell hby offy).trans q0y
       have s1y := (blk_cell hby (offy + 1)).trans q1y
       have s2y := (blk_cell hby (offy + 2)).trans q2y
       have HBKy := Aside0.mk hby;have QQy := Aside0.mk (And.intro q0y (And.intro q1y q2y))
       obtain ⟨ny, hny⟩ : ∃ n, y.length = n := ⟨_, rfl⟩
       have HNy := Aside0.mk hny;rw [List.length_cons, hny] at hv1
       have d0y : decide ((0 : Int) < ((ny + 1 : Nat) : Int)) = true := decide_eq_true (by omega)
       clear q0y q1y q2y hcsy hby hny;by_cases hs2 : s.f0 = 2
       ·have d2y : (s.f0 == 2) = true := by simp [hs2]
        cases x with
        | nil =>
         subst hv0 hv1 hBy
         rw [overL, if_pos hs2] at hc
         obtain ⟨oo, hoo, hc⟩ := Option.bind_eq_some_iff.1 hc
         split at hc
         ·next hlt =>
          have HOO := Aside0.mk hoo;have HC2 := Aside0.mk hc;have HLT := Aside0.mk hlt;clear hoo hc hlt HC hs2;go_wp2
          have STD := Aside0.mk (ST.out.below (below_drew1 (Below.refl _ _)))
          refine wp_region_noPanic ?_
          refine start_ (n := 9) (S := fun w' => w'.cell? ⟨w.heap.size, 0, none⟩ = some (.slice Av o.length cv) ∧ w'.cell? ⟨gly, offy, none⟩ = some (.int .i64 s.f0) ∧ w'.cell? ⟨gly, offy + 1, none⟩ = some (.int .i64 s.f1) ∧ w'.cell? ⟨gly, offy + 2, none⟩ = some (.string s.f2)) (ds := [8]) #[false, false, false, false, false, false, false, false, false] (by kernel_rfl) rfl rfl ⟨((blk_cell STD.out.c 0).trans (show _ = some (Value.slice Av o.length cv) from rfl)), ((blk_cell (blk_drew HBKy.out) offy).trans QQy.out.1), ((blk_cell (blk_drew HBKy.out) (offy + 1)).trans QQy.out.2.1), ((blk_cell (blk_drew HBKy.out) (offy + 2)).trans QQy.out.2.2)⟩ (fun hHeld => ?_)
          refine pure_ (i := 1) (N := some 83) (v := ?_) (a' := ?_) #[false, true, false, false, false, false, false, false, false] rfl rfl (by kernel_rfl) (fun _ _ _ h => h) (Or.inl ⟨by rfl, ?_⟩) ?_ ?_
          rotate_left
          ·intro w'
           go_simp;with_reducible rfl
          rotate_left
          ·simp only [Act.put, zS, i64_w, i32_w]
           rfl
          refine pure_ (i := 2) (N := some 84) (v := ?_) (a' := ?_) #[false, true, true, false, false, false, false, false, false] rfl rfl (by kernel_rfl) (fun _ _ _ h => h) (Or.inl ⟨by rfl, ?_⟩) ?_ ?_
          rotate_left
          ·intro w'
           go_simp;with_reducible rfl
          rotate_left
          ·simp only [Act.put, zS, i64_w, i32_w]
           rfl
          refine take_ (i := 0) (N := some 82) (v := ?_) (a' := ?_) #[true, true, true, false, false, false, false, false, false] rfl rfl (by kernel_rfl) (fun _ _ _ h => h) (Or.inl ⟨by rfl, ?_⟩) hHeld ?_ ?_
          rotate_left
          ·rintro w' ⟨s0, s1, s2, s3⟩
           go_simp;with_reducible rfl
          rotate_left
          ·simp only [Act.put, zS, i64_w, i32_w]
           rfl
          refine take_ (i := 3) (N := some 85) (v := ?_) (a' := ?_) #[true, true, true, true, false, false, false, false, false] rfl rfl (by kernel_rfl) (fun _ _ _ h => h) (Or.inl ⟨by rfl, ?_⟩) hHeld ?_ ?_
          rotate_left
          ·rintro w' ⟨s0, s1, s2, s3⟩
           go_simp;with_reducible rfl
          rotate_left
          ·simp only [Act.put, zS, i64_w, i32_w]
           rfl
          refine one_ (i := 4) (N := some 86) #[true, true, true, true, true, false, false, false, false] rfl rfl (by kernel_rfl) (by decide) (fun K hK => ?_)
          refine goes_ Tryd.func49 (by kernel_rfl) rfl #[.agg #[.int .i64 s.f0, .int .i64 s.f1, .string s.f2]] (by rfl) rfl rfl (by simp only [List.map_toArray, List.map_cons, List.map_nil]; rfl) ?_
          with_reducible refine (span_Out.calls _ _ _ _ _ (HG.out.below STD.out.b) HOO.out).mono ?_
          rintro e w1 ⟨rfl, hb⟩
          refine ⟨_, rfl, ?_⟩
          have ST1 := Aside0.mk (STD.out.below hb)
          have HK1 := Aside0.mk (blk_below (blk_drew HBKy.out) hb)
          clear hb;refine hK.out _ _ ⟨((blk_cell ST1.out.c 0).trans (show _ = some (Value.slice Av o.length cv) from rfl)), ((blk_cell HK1.out offy).trans QQy.out.1), ((blk_cell HK1.out (offy + 1)).trans QQy.out.2.1), ((blk_cell HK1.out (offy + 2)).trans QQy.out.2.2)⟩ (fun hHeld => ?_)
          clear hK K;refine norm_ (a' := ?_) ?_ ?_
          rotate_left
          ·show Act.put _ (some 86) _ = _
           simp only [Act.put, zS, i64_w, i32_w]
           rfl
          refine pure_ (i := 5) (N := some 87) (v := ?_) (a' := ?_) #[true, true, true, true, true, true, false, false, false] rfl rfl (by kernel_rfl) (fun _ _ _ h => h) (Or.inl ⟨by rfl, ?_⟩) ?_ ?_
          rotate_left
          ·intro w'
           go_simp;with_reducible rfl
          rotate_left
          ·simp only [Act.put, zS, i64_w, i32_w]
           rfl
          refine one_ (i := 6) (N := some 88) #[true, true, true, true, true, true, true, false, false] rfl rfl (by kernel_rfl) (by decide) (fun K hK => ?_)
          refine value_ (w1 := ?_) (v := ?_) (by rfl) rfl ?_ ?_
          rotate_left 2
          ·go_simp;constructor
           ·rfl
           ·rfl
          refine hK.out _ _ ⟨((blk_cell (blk_alloc ST1.out.c _) 0).trans (show _ = some (Value.slice Av o.length cv) from rfl)), ((blk_cell (blk_alloc HK1.out _) offy).trans QQy.out.1), ((blk_cell (blk_alloc HK1.out _) (offy + 1)).trans QQy.out.2.1), ((blk_cell (blk_alloc HK1.out _) (offy + 2)).trans QQy.out.2.2)⟩ (fun hHeld => ?_)
          clear hK K;refine norm_ (a' := ?_) ?_ ?_
          rotate_left
          ·show Act.put _ (some 88) _ = _
           simp only [Act.put, zS, i64_w, i32_w]
           rfl
          refine one_ (i := 7) (N := some 89) #[true, true, true, true, true, true, true, true, false] rfl rfl (by kernel_rfl) (by decide) (fun K hK => ?_)
          refine Kd.R_append_step k26 (w0 := w) w.heap.size (by rfl) (.tmp 82) (.tmp 88) 27 26 (.agg #[.int .i64 0, .int .i64 0, .string ⟨#[]⟩]) 32 (by rfl) Tryd.underlying27 info26 rfl (by decide) (by omega) _ o (⟨1, oo, ⟨#[]⟩⟩ : S26) [.int .i64 1, .int .i64 oo, .string ⟨#[]⟩] (fun _ => True) (fun _ => False) (by rfl) (by rfl) (k26_mkM _ _ _ (⟨1, oo, ⟨#[]⟩⟩ : S26)) (fun _ hk => hk.elim) (fun _ _ => trivial) ST1.out.o ST1.out.b ST1.out.b.size (by have := HLT.out; omega) ?_
          intro v1 w5 ho1 hb1 hg1 hat1;have BX5 := Aside0.mk (OvS.box ST1.out hg1)
          have cx5 := (blk_cell BX5.out 0).trans (show _ = some (Value.slice Av o.length cv) from rfl)
          have fx5 := blk_frozen BX5.out 0;have BR5 := (hg1.block gly (blk_lt HK1.out) (ST1.out.ny (by simp))).trans HK1.out
          have STF := Aside0.mk (OvS.append ST1.out ho1 hb1 hg1 hat1)
          obtain ⟨Aw, cw, rfl⟩ := Kd.R_slice ho1
          rw [List.length_append, List.length_singleton] at STF ⊢
          clear ho1 hb1 hg1 hat1;refine hK.out _ _ ⟨cx5, (blk_cell BR5 offy).trans QQy.out.1, (blk_cell BR5 (offy + 1)).trans QQy.out.2.1, (blk_cell BR5 (offy + 2)).trans QQy.out.2.2⟩ (fun hHeld => ?_)
          clear hK K;refine norm_ (a' := ?_) ?_ ?_
          rotate_left
          ·show Act.put _ (some 89) _ = _
           simp only [Act.put, zS, i64_w, i32_w]
           rfl
          refine last_ (i := 8) (N := none) #[true, true, true, true, true, true, true, true, true] rfl rfl (by kernel_rfl) (by decide) (fun K hK => ?_)
          refine skip_ (w1 := ?_) (by rfl) rfl ?_ ?_
          rotate_left
          ·go_simp;rfl
          refine hK.out _ _ ?_
          clear hK K;refine done_ (by kernel_rfl) ?_
          refine NoPanic.normal ?_
          clear cL fL s0y s1y s2y;obtain ⟨i1, hi1, _, hsz1, _⟩ := info_parts info26
          have hcr := cut_from (P := Tryd.prog) 27 26 .i64 Tryd.underlying27 hi1 3 hsz1 (some ⟨gly, offy, none⟩) (ny + 1) cy 1 (by omega) (by omega)
          rw [show ((1 : Int).toNat) = 1 from rfl, show ny + 1 - 1 = ny from rfl] at hcr
          obtain ⟨A2, hA2⟩ : ∃ A2, (if cy = 1 then (some ⟨gly, offy, none⟩ : Option Addr) else (some ⟨gly, offy, none⟩ : Option Addr).map (·.add (1 * 3))) = A2 := ⟨_, rfl⟩
          rw [hA2] at hcr
          have HA2 := Aside0.mk hA2;clear hA2 hi1 hsz1;go_wp2
          go_roundg kq
          case measure => omega
          case rel => exact ⟨glx, gly, cx, cy - 1, A, A2, [], y, _, _, rfl, by rw [HNy.out], ⟨(STF.out.swap.tail HA2.out).swap⟩, HC2⟩
         ·cases hc
        | cons a x =>
         obtain ⟨nx, hnx⟩ : ∃ n, x.length = n := ⟨_, rfl⟩
         have HNX := Aside0.mk hnx;rw [List.length_cons, hnx] at hv0
         have d0x : decide ((0 : Int) < ((nx + 1 : Nat) : Int)) = true := decide_eq_true (by omega)
         clear hnx;subst hv0 hv1 hBy
         rw [overL, if_pos hs2] at hc
         obtain ⟨oo, hoo, hc⟩ := Option.bind_eq_some_iff.1 hc
         split at hc
         ·next hlt =>
          have HOO := Aside0.mk hoo;have HC2 := Aside0.mk hc;have HLT := Aside0.mk hlt;clear hoo hc hlt HC hs2;go_wp2
          have STD := Aside0.mk (ST.out.below (below_drew1 (Below.refl _ _)))
          refine wp_region_noPanic ?_
          refine start_ (n := 9) (S := fun w' => w'.cell? ⟨w.heap.size, 0, none⟩ = some (.slice Av o.length cv) ∧ w'.cell? ⟨gly, offy, none⟩ = some (.int .i64 s.f0) ∧ w'.cell? ⟨gly, offy + 1, none⟩ = some (.int .i64 s.f1) ∧ w'.cell? ⟨gly, offy + 2, none⟩ = some (.string s.f2)) (ds := [8]) #[false, false, false, false, false, false, false, false, false] (by kernel_rfl) rfl rfl ⟨((blk_cell STD.out.c 0).trans (show _ = some (Value.slice Av o.length cv) from rfl)), ((blk_cell (blk_drew HBKy.out) offy).trans QQy.out.1), ((blk_cell (blk_drew HBKy.out) (offy + 1)).trans QQy.out.2.1), ((blk_cell (blk_drew HBKy.out) (offy + 2)).trans QQy.out.2.2)⟩ (fun hHeld => ?_)
          refine pure_ (i := 1) (N := some 83) (v := ?_) (a' := ?_) #[false, true, false, false, false, false, false, false, false] rfl rfl (by kernel_rfl) (fun _ _ _ h => h) (Or.inl ⟨by rfl, ?_⟩) ?_ ?_
          rotate_left
          ·intro w'
           go_simp;with_reducible rfl
          rotate_left
          ·simp only [Act.put, zS, i64_w, i32_w]
           rfl
          refine pure_ (i := 2) (N := some 84) (v := ?_) (a' := ?_) #[false, true, true, false, false, false, false, false, false] rfl rfl (by kernel_rfl) (fun _ _ _ h => h) (Or.inl ⟨by rfl, ?_⟩) ?_ ?_
          rotate_left
          ·intro w'
           go_simp;with_reducible rfl
          rotate_left
          ·simp only [Act.put, zS, i64_w, i32_w]
           rfl
          refine take_ (i := 0) (N := some 82) (v := ?_) (a' := ?_) #[true, true, true, false, false, false, false, false, false] rfl rfl (by kernel_rfl) (fun _ _ _ h => h) (Or.inl ⟨by rfl, ?_⟩) hHeld ?_ ?_
          rotate_left
          ·rintro w' ⟨s0, s1, s2, s3⟩
           go_simp;with_reducible rfl
          rotate_left
          ·simp only [Act.put, zS, i64_w, i32_w]
           rfl
          refine take_ (i := 3) (N := some 85) (v := ?_) (a' := ?_) #[true, true, true, true, false, false, false, false, false] rfl rfl (by kernel_rfl) (fun _ _ _ h => h) (Or.inl ⟨by rfl, ?_⟩) hHeld ?_ ?_
          rotate_left
          ·rintro w' ⟨s0, s1, s2, s3⟩
           go_simp;with_reducible rfl
          rotate_left
          ·simp only [Act.put, zS, i64_w, i32_w]
           rfl
          refine one_ (i := 4) (N := some 86) #[true, true, true, true, true, false, false, false, false] rfl rfl (by kernel_rfl) (by decide) (fun K hK => ?_)
          refine goes_ Tryd.func49 (by kernel_rfl) rfl #[.agg #[.int .i64 s.f0, .int .i64 s.f1, .string s.f2]] (by rfl) rfl rfl (by simp only [List.map_toArray, List.map_cons, List.map_nil]; rfl) ?_
          with_reducible refine (span_Out.calls _ _ _ _ _ (HG.out.below STD.out.b) HOO.out).mono ?_
          rintro e w1 ⟨rfl, hb⟩
          refine ⟨_, rfl, ?_⟩
          have ST1 := Aside0.mk (STD.out.below hb)
          have HK1 := Aside0.mk (blk_below (blk_drew HBKy.out) hb)
          clear hb;refine hK.out _ _ ⟨((blk_cell ST1.out.c 0).trans (show _ = some (Value.slice Av o.length cv) from rfl)), ((blk_cell HK1.out offy).trans QQy.out.1), ((blk_cell HK1.out (offy + 1)).trans QQy.out.2.1), ((blk_cell HK1.out (offy + 2)).trans QQy.out.2.2)⟩ (fun hHeld => ?_)
          clear hK K;refine norm_ (a' := ?_) ?_ ?_
          rotate_left
          ·show Act.put _ (some 86) _ = _
           simp only [Act.put, zS, i64_w, i32_w]
           rfl
          refine pure_ (i := 5) (N := some 87) (v := ?_) (a' := ?_) #[true, true, true, true, true, true, false, false, false] rfl rfl (by kernel_rfl) (fun _ _ _ h => h) (Or.inl ⟨by rfl, ?_⟩) ?_ ?_
          rotate_left
          ·intro w'
           go_simp;with_reducible rfl
          rotate_left
          ·simp only [Act.put, zS, i64_w, i32_w]
           rfl
          refine one_ (i := 6) (N := some 88) #[true, true, true, true, true, true, true, false, false] rfl rfl (by kernel_rfl) (by decide) (fun K hK => ?_)
          refine value_ (w1 := ?_) (v := ?_) (by rfl) rfl ?_ ?_
          rotate_left 2
          ·go_simp;constructor
           ·rfl
           ·rfl
          refine hK.out _ _ ⟨((blk_cell (blk_alloc ST1.out.c _) 0).trans (show _ = some (Value.slice Av o.length cv) from rfl)), ((blk_cell (blk_alloc HK1.out _) offy).trans QQy.out.1), ((blk_cell (blk_alloc HK1.out _) (offy + 1)).trans QQy.out.2.1), ((blk_cell (blk_alloc HK1.out _) (offy + 2)).trans QQy.out.2.2)⟩ (fun hHeld => ?_)
          clear hK K;refine norm_ (a' := ?_) ?_ ?_
          rotate_left
          ·show Act.put _ (some 88) _ = _
           simp only [Act.put, zS, i64_w, i32_w]
           rfl
          refine one_ (i := 7) (N := some 89) #[true, true, true, true, true, true, true, true, false] rfl rfl (by kernel_rfl) (by decide) (fun K hK => ?_)
          refine Kd.R_append_step k26 (w0 := w) w.heap.size (by rfl) (.tmp 82) (.tmp 88) 27 26 (.agg #[.int .i64 0, .int .i64 0, .string ⟨#[]⟩]) 32 (by rfl) Tryd.underlying27 info26 rfl (by decide) (by omega) _ o (⟨1, oo, ⟨#[]⟩⟩ : S26) [.int .i64 1, .int .i64 oo, .string ⟨#[]⟩] (fun _ => True) (fun _ => False) (by rfl) (by rfl) (k26_mkM _ _ _ (⟨1, oo, ⟨#[]⟩⟩ : S26)) (fun _ hk => hk.elim) (fun _ _ => trivial) ST1.out.o ST1.out.b ST1.out.b.size (by have := HLT.out; omega) ?_
          intro v1 w5 ho1 hb1 hg1 hat1;have BX5 := Aside0.mk (OvS.box ST1.out hg1)
          have cx5 := (blk_cell BX5.out 0).trans (show _ = some (Value.slice Av o.length cv) from rfl)
          have fx5 := blk_frozen BX5.out 0;have BR5 := (hg1.block gly (blk_lt HK1.out) (ST1.out.ny (by simp))).trans HK1.out
          have STF := Aside0.mk (OvS.append ST1.out ho1 hb1 hg1 hat1)
          obtain ⟨Aw, cw, rfl⟩ := Kd.R_slice ho1
          rw [List.length_append, List.length_singleton] at STF ⊢
          clear ho1 hb1 hg1 hat1;refine hK.out _ _ ⟨cx5, (blk_cell BR5 offy).trans QQy.out.1, (blk_cell BR5 (offy + 1)).trans QQy.out.2.1, (blk_cell BR5 (offy + 2)).trans QQy.out.2.2⟩ (fun hHeld => ?_)
          clear hK K;refine norm_ (a' := ?_) ?_ ?_
          rotate_left
          ·show Act.put _ (some 89) _ = _
           simp only [Act.put, zS, i64_w, i32_w]
           rfl
          refine last_ (i := 8) (N := none) #[true, true, true, true, true, true, true, true, true] rfl rfl (by kernel_rfl) (by decide) (fun K hK => ?_)
          refine skip_ (w1 := ?_) (by rfl) rfl ?_ ?_
          rotate_left
          ·go_simp;rfl
          refine hK.out _ _ ?_
          clear hK K;refine done_ (by kernel_rfl) ?_
          refine NoPanic.normal ?_
          clear cL fL s0y s1y s2y;obtain ⟨i1, hi1, _, hsz1, _⟩ := info_parts info26
          have hcr := cut_from (P := Tryd.prog) 27 26 .i64 Tryd.underlying27 hi1 3 hsz1 (some ⟨gly, offy, none⟩) (ny + 1) cy 1 (by omega) (by omega)
          rw [show ((1 : Int).toNat) = 1 from rfl, show ny + 1 - 1 = ny from rfl] at hcr
          obtain ⟨A2, hA2⟩ : ∃ A2, (if cy = 1 then (some ⟨gly, offy, none⟩ : Option Addr) else (some ⟨gly, offy, none⟩ : Option Addr).map (·.add (1 * 3))) = A2 := ⟨_, rfl⟩
          rw [hA2] at hcr
          have HA2 := Aside0.mk hA2;clear hA2 hi1 hsz1;go_wp2
          go_roundg kq
          case measure => omega
          case rel => exact ⟨glx, gly, cx, cy - 1, A, A2, (a :: x), y, _, _, by rw [List.length_cons, HNX.out], by rw [HNy.out], ⟨(STF.out.swap.tail HA2.out).swap⟩, HC2⟩
         ·cases hc
       ·have d2y : (s.f0 == 2) = false := by simp [hs2]
        cases x with
        | nil =>
         rw [overL, if_neg hs2] at hc
         cases hc
        | cons a x =>
         obtain ⟨offx, curx, hBx, hbx, hcsx⟩ := ST.out.rx (by simp)
         obtain ⟨q0x, q1x, q2x⟩ := hcsx 0 a rfl
         have s0x := (blk_cell hbx offx).trans q0x
         have s1x := (blk_cell hbx (offx + 1)).trans q1x
         have s2x := (blk_cell hbx (offx + 2)).trans q2x
         have HBKx := Aside0.mk hbx;have QQx := Aside0.mk (And.intro q0x (And.intro q1x q2x))
         obtain ⟨nx, hnx⟩ : ∃ n, x.length = n := ⟨_, rfl⟩
         have HNx := Aside0.mk hnx;rw [List.length_cons, hnx] at hv0
         have d0x : decide ((0 : Int) < ((nx + 1 : Nat) : Int)) = true := decide_eq_true (by omega)
         clear q0x q1x q2x hcsx hbx hnx;by_cases ha2 : a.f0 = 2
         ·have d2x : (a.f0 == 2) = true := by simp [ha2]
          subst hv0 hv1 hBx hBy
          rw [overL, if_neg hs2, if_pos ha2] at hc
          split at hc
          ·next hlt =>
           have HC2 := Aside0.mk hc;have HLT := Aside0.mk hlt;clear hc hlt HC ha2;go_wp2
           have STD := Aside0.mk (ST.out.below (below_drew1 (Below.refl _ _)))
           refine wp_region_noPanic ?_
           refine start_ (n := 7) (S := fun w' => w'.cell? ⟨w.heap.size, 0, none⟩ = some (.slice Av o.length cv) ∧ w'.cell? ⟨glx, offx, none⟩ = some (.int .i64 a.f0) ∧ w'.cell? ⟨glx, offx + 1, none⟩ = some (.int .i64 a.f1) ∧ w'.cell? ⟨glx, offx + 2, none⟩ = some (.string a.f2)) (ds := [6]) #[false, false, false, false, false, false, false] (by kernel_rfl) rfl rfl ⟨((blk_cell STD.out.c 0).trans (show _ = some (Value.slice Av o.length cv) from rfl)), ((blk_cell (blk_drew HBKx.out) offx).trans QQx.out.1), ((blk_cell (blk_drew HBKx.out) (offx + 1)).trans QQx.out.2.1), ((blk_cell (blk_drew HBKx.out) (offx + 2)).trans QQx.out.2.2)⟩ (fun hHeld => ?_)
           refine pure_ (i := 1) (N := some 104) (v := ?_) (a' := ?_) #[false, true, false, false, false, false, false] rfl rfl (by kernel_rfl) (fun _ _ _ h => h) (Or.inl ⟨by rfl, ?_⟩) ?_ ?_
           rotate_left
           ·intro w'
            go_simp;with_reducible rfl
           rotate_left
           ·simp only [Act.put, zS, i64_w, i32_w]
            rfl
           refine pure_ (i := 2) (N := some 105) (v := ?_) (a' := ?_) #[false, true, true, false, false, false, false] rfl rfl (by kernel_rfl) (fun _ _ _ h => h) (Or.inl ⟨by rfl, ?_⟩) ?_ ?_
           rotate_left
           ·intro w'
            go_simp;with_reducible rfl
           rotate_left
           ·simp only [Act.put, zS, i64_w, i32_w]
            rfl
           refine take_ (i := 0) (N := some 103) (v := ?_) (a' := ?_) #[true, true, true, false, false, false, false] rfl rfl (by kernel_rfl) (fun _ _ _ h => h) (Or.inl ⟨by rfl, ?_⟩) hHeld ?_ ?_
           rotate_left
           ·rintro w' ⟨s0, s1, s2, s3⟩
            go_simp;with_reducible rfl
           rotate_left
           ·simp only [Act.put, zS, i64_w, i32_w]
            rfl
           refine take_ (i := 3) (N := some 106) (v := ?_) (a' := ?_) #[true, true, true, true, false, false, false] rfl rfl (by kernel_rfl) (fun _ _ _ h => h) (Or.inl ⟨by rfl, ?_⟩) hHeld ?_ ?_
           rotate_left
           ·rintro w' ⟨s0, s1, s2, s3⟩
            go_simp;with_reducible rfl
           rotate_left
           ·simp only [Act.put, zS, i64_w, i32_w]
            rfl
           refine one_ (i := 4) (N := some 107) #[true, true, true, true, true, false, false] rfl rfl (by kernel_rfl) (by decide) (fun K hK => ?_)
           refine value_ (w1 := ?_) (v := ?_) (by rfl) rfl ?_ ?_
           rotate_left 2
           ·go_simp;constructor
            ·rfl
            ·rfl
           refine hK.out _ _ ⟨((blk_cell (blk_alloc STD.out.c _) 0).trans (show _ = some (Value.slice Av o.length cv) from rfl)), ((blk_cell (blk_alloc (blk_drew HBKx.out) _) offx).trans QQx.out.1), ((blk_cell (blk_alloc (blk_drew HBKx.out) _) (offx + 1)).trans QQx.out.2.1), ((blk_cell (blk_alloc (blk_drew HBKx.out) _) (offx + 2)).trans QQx.out.2.2)⟩ (fun hHeld => ?_)
           clear hK K;refine norm_ (a' := ?_) ?_ ?_
           rotate_left
           ·show Act.put _ (some 107) _ = _
            simp only [Act.put, zS, i64_w, i32_w]
            rfl
           refine one_ (i := 5) (N := some 108) #[true, true, true, true, true, true, false] rfl rfl (by kernel_rfl) (by decide) (fun K hK => ?_)
           refine Kd.R_append_step k26 (w0 := w) w.heap.size (by rfl) (.tmp 103) (.tmp 107) 27 26 (.agg #[.int .i64 0, .int .i64 0, .string ⟨#[]⟩]) 32 (by rfl) Tryd.underlying27 info26 rfl (by decide) (by omega) _ o a [.int .i64 a.f0, .int .i64 a.f1, .string a.f2] (fun _ => True) (fun _ => False) (by rfl) (by rfl) (k26_mkM _ _ _ a) (fun _ hk => hk.elim) (fun _ _ => trivial) STD.out.o STD.out.b STD.out.b.size (by have := HLT.out; omega) ?_
           intro v1 w5 ho1 hb1 hg1 hat1;have BX5 := Aside0.mk (OvS.box STD.out hg1)
           have cx5 := (blk_cell BX5.out 0).trans (show _ = some (Value.slice Av o.length cv) from rfl)
           have fx5 := blk_frozen BX5.out 0;have BR5 := (hg1.block glx (blk_lt (blk_drew HBKx.out)) (STD.out.nx (by simp))).trans (blk_drew HBKx.out)
           have STF := Aside0.mk (OvS.append STD.out ho1 hb1 hg1 hat1)
           obtain ⟨Aw, cw, rfl⟩ := Kd.R_slice ho1
           rw [List.length_append, List.length_singleton] at STF ⊢
           clear ho1 hb1 hg1 hat1;refine hK.out _ _ ⟨cx5, (blk_cell BR5 offx).trans QQx.out.1, (blk_cell BR5 (offx + 1)).trans QQx.out.2.1, (blk_cell BR5 (offx + 2)).trans QQx.out.2.2⟩ (fun hHeld => ?_)
           clear hK K;refine norm_ (a' := ?_) ?_ ?_
           rotate_left
           ·show Act.put _ (some 108) _ = _
            simp only [Act.put, zS, i64_w, i32_w]
            rfl
           refine last_ (i := 6) (N := none) #[true, true, true, true, true, true, true] rfl rfl (by kernel_rfl) (by decide) (fun K hK => ?_)
           refine skip_ (w1 := ?_) (by rfl) rfl ?_ ?_
           rotate_left
           ·go_simp;rfl
           refine hK.out _ _ ?_
           clear hK K;refine done_ (by kernel_rfl) ?_
           refine NoPanic.normal ?_
           clear cL fL s0x s1x s2x;obtain ⟨i1, hi1, _, hsz1, _⟩ := info_parts info26
           have hcr := cut_from (P := Tryd.prog) 27 26 .i64 Tryd.underlying27 hi1 3 hsz1 (some ⟨glx, offx, none⟩) (nx + 1) cx 1 (by omega) (by omega)
           rw [show ((1 : Int).toNat) = 1 from rfl, show nx + 1 - 1 = nx from rfl] at hcr
           obtain ⟨A2, hA2⟩ : ∃ A2, (if cx = 1 then (some ⟨glx, offx, none⟩ : Option Addr) else (some ⟨glx, offx, none⟩ : Option Addr).map (·.add (1 * 3))) = A2 := ⟨_, rfl⟩
           rw [hA2] at hcr
           have HA2 := Aside0.mk hA2;clear hA2 hi1 hsz1;go_wp2
           go_roundg kq
           case measure => omega
           case rel => exact ⟨glx, gly, cx - 1, cy, A2, _, x, (s :: y), _, _, by rw [HNx.out], by rw [List.length_cons, HNy.out], ⟨STF.out.tail HA2.out⟩, HC2⟩
          ·cases hc
         ·have d2x : (a.f0 == 2) = false := by simp [ha2]
          by_cases hs1 : s.f0 = 1
          ·have d1y : (s.f0 == 1) = true := by simp [hs1]
           subst hv0 hv1 hBx hBy
           rw [overL, if_neg hs2, if_neg ha2] at hc
           simp only [mn_min] at hc
           rw [if_pos hs1] at hc
           split at hc
           ·next hlt =>
            have HC2 := Aside0.mk hc;have HLT := Aside0.mk hlt;clear hc hlt HC ha2 hs2 hs1;go_wp2
            refine wp_region_noPanic ?_
            refine start_ (n := 10) (S := fun w' => w'.cell? ⟨glx, offx + 1, none⟩ = some (.int .i64 a.f1) ∧ w'.cell? ⟨gly, offy + 1, none⟩ = some (.int .i64 s.f1)) (ds := []) #[false, false, false, false, false, false, false, false, false, false] (by kernel_rfl) rfl rfl ⟨((blk_cell (blk_drew HBKx.out) (offx + 1)).trans QQx.out.2.1), ((blk_cell (blk_drew HBKy.out) (offy + 1)).trans QQy.out.2.1)⟩ (fun hHeld => ?_)
            refine pure_ (i := 0) (N := some 42) (v := ?_) (a' := ?_) #[true, false, false, false, false, false, false, false, false, false] rfl rfl (by kernel_rfl) (fun _ _ _ h => h) (Or.inl ⟨by rfl, ?_⟩) ?_ ?_
            rotate_left
            ·intro w'
             go_simp;with_reducible rfl
            rotate_left
            ·simp only [Act.put, zS, i64_w, i32_w]
             rfl
            refine pure_ (i := 1) (N := some 43) (v := ?_) (a' := ?_) #[true, true, false, false, false, false, false, false, false, false] rfl rfl (by kernel_rfl) (fun _ _ _ h => h) (Or.inl ⟨by rfl, ?_⟩) ?_ ?_
            rotate_left
            ·intro w'
             go_simp;with_reducible rfl
            rotate_left
            ·simp only [Act.put, zS, i64_w, i32_w]
             rfl
            refine pure_ (i := 2) (N := some 44) (v := ?_) (a' := ?_) #[true, true, true, false, false, false, false, false, false, false] rfl rfl (by kernel_rfl) (fun _ _ _ h => h) (Or.inl ⟨by rfl, ?_⟩) ?_ ?_
            rotate_left
            ·intro w'
             go_simp;with_reducible rfl
            rotate_left
            ·simp only [Act.put, zS, i64_w, i32_w]
             rfl
            refine pure_ (i := 4) (N := some 46) (v := ?_) (a' := ?_) #[true, true, true, false, true, false, false, false, false, false] rfl rfl (by kernel_rfl) (fun _ _ _ h => h) (Or.inl ⟨by rfl, ?_⟩) ?_ ?_
            rotate_left
            ·intro w'
             go_simp;with_reducible rfl
            rotate_left
            ·simp only [Act.put, zS, i64_w, i32_w]
             rfl
            refine pure_ (i := 5) (N := some 47) (v := ?_) (a' := ?_) #[true, true, true, false, true, true, false, false, false, false] rfl rfl (by kernel_rfl) (fun _ _ _ h => h) (Or.inl ⟨by rfl, ?_⟩) ?_ ?_
            rotate_left
            ·intro w'
             go_simp;with_reducible rfl
            rotate_left
            ·simp only [Act.put, zS, i64_w, i32_w]
             rfl
            refine pure_ (i := 6) (N := some 48) (v := ?_) (a' := ?_) #[true, true, true, false, true, true, true, false, false, false] rfl rfl (by kernel_rfl) (fun _ _ _ h => h) (Or.inl ⟨by rfl, ?_⟩) ?_ ?_
            rotate_left
            ·intro w'
             go_simp;with_reducible rfl
            rotate_left
            ·simp only [Act.put, zS, i64_w, i32_w]
             rfl
            refine take_ (i := 3) (N := some 45) (v := ?_) (a' := ?_) #[true, true, true, true, true, true, true, false, false, false] rfl rfl (by kernel_rfl) (fun _ _ _ h => h) (Or.inl ⟨by rfl, ?_⟩) hHeld ?_ ?_
            rotate_left
            ·rintro w' ⟨s0, s1⟩
             go_simp;with_reducible rfl
            rotate_left
            ·simp only [Act.put, zS, i64_w, i32_w]
             rfl
            refine take_ (i := 7) (N := some 49) (v := ?_) (a' := ?_) #[true, true, true, true, true, true, true, true, false, false] rfl rfl (by kernel_rfl) (fun _ _ _ h => h) (Or.inl ⟨by rfl, ?_⟩) hHeld ?_ ?_
            rotate_left
            ·rintro w' ⟨s0, s1⟩
             go_simp;with_reducible rfl
            rotate_left
            ·simp only [Act.put, zS, i64_w, i32_w]
             rfl
            refine pure_ (i := 8) (N := some 50) (v := ?_) (a' := ?_) #[true, true, true, true, true, true, true, true, true, false] rfl rfl (by kernel_rfl) (fun _ _ _ h => h) (Or.inl ⟨by rfl, ?_⟩) ?_ ?_
            rotate_left
            ·intro w'
             go_simp;with_reducible rfl
            rotate_left
            ·simp only [Act.put, zS, i64_w, i32_w]
             rfl
            refine pure_ (i := 9) (N := some 9) (v := ?_) (a' := ?_) #[true, true, true, true, true, true, true, true, true, true] rfl rfl (by kernel_rfl) (fun _ _ _ h => h) (Or.inl ⟨by rfl, ?_⟩) ?_ ?_
            rotate_left
            ·intro w'
             go_simp;with_reducible rfl
            rotate_left
            ·simp only [Act.put, zS, i64_w, i32_w]
             rfl
            refine done_ (by kernel_rfl) ?_
            refine NoPanic.normal ?_
            have ST0 := ST
            replace ST := Aside0.mk (ST0.out.below (below_drew1 (Below.refl _ _)))
            replace HBKx := Aside0.mk (blk_drew HBKx.out)
            replace HBKy := Aside0.mk (blk_drew HBKy.out)
            clear s0x s1x s2x s0y s1y s2y cL fL ST0;have s0x := (blk_cell HBKx.out offx).trans QQx.out.1
            have s1x := (blk_cell HBKx.out (offx + 1)).trans QQx.out.2.1
            have s2x := (blk_cell HBKx.out (offx + 2)).trans QQx.out.2.2
            have s0y := (blk_cell HBKy.out offy).trans QQy.out.1
            have s1y := (blk_cell HBKy.out (offy + 1)).trans QQy.out.2.1
            have s2y := (blk_cell HBKy.out (offy + 2)).trans QQy.out.2.2
            have cL := (blk_cell ST.out.c 0).trans (show _ = some (Value.slice Av o.length cv) from rfl)
            have fL := blk_frozen ST.out.c 0
            go_wp2
            have STD := Aside0.mk (ST.out.below (below_drew1 (Below.refl _ _)))
            refine wp_region_noPanic ?_
            refine start_ (n := 10) (S := fun w' => w'.cell? ⟨w.heap.size, 0, none⟩ = some (.slice Av o.length cv) ∧ w'.cell? ⟨glx, offx, none⟩ = some (.int .i64 a.f0) ∧ w'.cell? ⟨glx, offx + 1, none⟩ = some (.int .i64 a.f1) ∧ w'.cell? ⟨glx, offx + 2, none⟩ = some (.string a.f2)) (ds := [9]) #[false, false, false, false, false, false, false, false, false, false] (by kernel_rfl) rfl rfl ⟨((blk_cell STD.out.c 0).trans (show _ = some (Value.slice Av o.length cv) from rfl)), ((blk_cell (blk_drew HBKx.out) offx).trans QQx.out.1), ((blk_cell (blk_drew HBKx.out) (offx + 1)).trans QQx.out.2.1), ((blk_cell (blk_drew HBKx.out) (offx + 2)).trans QQx.out.2.2)⟩ (fun hHeld => ?_)
            refine pure_ (i := 1) (N := some 57) (v := ?_) (a' := ?_) #[false, true, false, false, false, false, false, false, false, false] rfl rfl (by kernel_rfl) (fun _ _ _ h => h) (Or.inl ⟨by rfl, ?_⟩) ?_ ?_
            rotate_left
            ·intro w'
             go_simp;with_reducible rfl
            rotate_left
            ·simp only [Act.put, zS, i64_w, i32_w]
             rfl
            refine pure_ (i := 2) (N := some 58) (v := ?_) (a' := ?_) #[false, true, true, false, false, false, false, false, false, false] rfl rfl (by kernel_rfl) (fun _ _ _ h => h) (Or.inl ⟨by rfl, ?_⟩) ?_ ?_
            rotate_left
            ·intro w'
             go_simp;with_reducible rfl
            rotate_left
            ·simp only [Act.put, zS, i64_w, i32_w]
             rfl
            refine pure_ (i := 3) (N := some 59) (v := ?_) (a' := ?_) #[false, true, true, true, false, false, false, false, false, false] rfl rfl (by kernel_rfl) (fun _ _ _ h => h) (Or.inl ⟨by rfl, ?_⟩) ?_ ?_
            rotate_left
            ·intro w'
             go_simp;with_reducible rfl
            rotate_left
            ·simp only [Act.put, zS, i64_w, i32_w]
             rfl
            refine pure_ (i := 5) (N := some 61) (v := ?_) (a' := ?_) #[false, true, true, true, false, true, false, false, false, false] rfl rfl (by kernel_rfl) (fun _ _ _ h => h) (Or.inl ⟨by rfl, ?_⟩) ?_ ?_
            rotate_left
            ·intro w'
             go_simp;with_reducible rfl
            rotate_left
            ·simp only [Act.put, zS, i64_w, i32_w]
             rfl
            refine take_ (i := 0) (N := some 56) (v := ?_) (a' := ?_) #[true, true, true, true, false, true, false, false, false, false] rfl rfl (by kernel_rfl) (fun _ _ _ h => h) (Or.inl ⟨by rfl, ?_⟩) hHeld ?_ ?_
            rotate_left
            ·rintro w' ⟨s0, s1, s2, s3⟩
             go_simp;with_reducible rfl
            rotate_left
            ·simp only [Act.put, zS, i64_w, i32_w]
             rfl
            refine take_ (i := 4) (N := some 60) (v := ?_) (a' := ?_) #[true, true, true, true, true, true, false, false, false, false] rfl rfl (by kernel_rfl) (fun _ _ _ h => h) (Or.inl ⟨by rfl, ?_⟩) hHeld ?_ ?_
            rotate_left
            ·rintro w' ⟨s0, s1, s2, s3⟩
             go_simp;with_reducible rfl
            rotate_left
            ·simp only [Act.put, zS, i64_w, i32_w]
             rfl
            refine pure_ (i := 6) (N := some 62) (v := ?_) (a' := ?_) #[true, true, true, true, true, true, true, false, false, false] rfl rfl (by kernel_rfl) (fun _ _ _ h => h) (Or.inl ⟨by rfl, ?_⟩) ?_ ?_
            rotate_left
            ·intro w'
             go_simp;with_reducible rfl
            rotate_left
            ·simp only [Act.put, zS, i64_w, i32_w]
             rfl
            refine one_ (i := 7) (N := some 63) #[true, true, true, true, true, true, true, true, false, false] rfl rfl (by kernel_rfl) (by decide) (fun K hK => ?_)
            refine value_ (w1 := ?_) (v := ?_) (by rfl) rfl ?_ ?_
            rotate_left 2
            ·go_simp;constructor
             ·rfl
             ·rfl
            refine hK.out _ _ ⟨((blk_cell (blk_alloc STD.out.c _) 0).trans (show _ = some (Value.slice Av o.length cv) from rfl)), ((blk_cell (blk_alloc (blk_drew HBKx.out) _) offx).trans QQx.out.1), ((blk_cell (blk_alloc (blk_drew HBKx.out) _) (offx + 1)).trans QQx.out.2.1), ((blk_cell (blk_alloc (blk_drew HBKx.out) _) (offx + 2)).trans QQx.out.2.2)⟩ (fun hHeld => ?_)
            clear hK K;refine norm_ (a' := ?_) ?_ ?_
            rotate_left
            ·show Act.put _ (some 63) _ = _
             simp only [Act.put, zS, i64_w, i32_w]
             rfl
            refine one_ (i := 8) (N := some 64) #[true, true, true, true, true, true, true, true, true, false] rfl rfl (by kernel_rfl) (by decide) (fun K hK => ?_)
            refine Kd.R_append_step k26 (w0 := w) w.heap.size (by rfl) (.tmp 56) (.tmp 63) 27 26 (.agg #[.int .i64 0, .int .i64 0, .string ⟨#[]⟩]) 32 (by rfl) Tryd.underlying27 info26 rfl (by decide) (by omega) _ o (⟨a.f0, min a.f1 s.f1, ⟨#[]⟩⟩ : S26) [.int .i64 a.f0, .int .i64 (min a.f1 s.f1), .string ⟨#[]⟩] (fun _ => True) (fun _ => False) (by rfl) (by rfl) (k26_mkM _ _ _ (⟨a.f0, min a.f1 s.f1, ⟨#[]⟩⟩ : S26)) (fun _ hk => hk.elim) (fun _ _ => trivial) STD.out.o STD.out.b STD.out.b.size (by have := HLT.out; omega) ?_
            intro v1 w5 ho1 hb1 hg1 hat1;have BX5 := Aside0.mk (OvS.box STD.out hg1)
            have cx5 := (blk_cell BX5.out 0).trans (show _ = some (Value.slice Av o.length cv) from rfl)
            have fx5 := blk_frozen BX5.out 0;have BR5 := (hg1.block glx (blk_lt (blk_drew HBKx.out)) (STD.out.nx (by simp))).trans (blk_drew HBKx.out)
            have STF := Aside0.mk (OvS.append STD.out ho1 hb1 hg1 hat1)
            obtain ⟨Aw, cw, rfl⟩ := Kd.R_slice ho1
            rw [List.length_append, List.length_singleton] at STF ⊢
            clear ho1 hb1 hg1 hat1;refine hK.out _ _ ⟨cx5, (blk_cell BR5 offx).trans QQx.out.1, (blk_cell BR5 (offx + 1)).trans QQx.out.2.1, (blk_cell BR5 (offx + 2)).trans QQx.out.2.2⟩ (fun hHeld => ?_)
            clear hK K;refine norm_ (a' := ?_) ?_ ?_
            rotate_left
            ·show Act.put _ (some 64) _ = _
             simp only [Act.put, zS, i64_w, i32_w]
             rfl
            refine last_ (i := 9) (N := none) #[true, true, true, true, true, true, true, true, true, true] rfl rfl (by kernel_rfl) (by decide) (fun K hK => ?_)
            refine skip_ (w1 := ?_) (by rfl) rfl ?_ ?_
            rotate_left
            ·go_simp;rfl
            refine hK.out _ _ ?_
            clear hK K;refine done_ (by kernel_rfl) ?_
            refine NoPanic.normal ?_
            go_wp2_with (first | (go_at_call 50; (with_reducible refine (over_less.callsN glx cx (some ⟨glx, offx, none⟩) a x nx HNx.out (min a.f1 s.f1) _ STF.out.rx STF.out.xc STF.out.xm).mono ?_); rintro e w6 ⟨A', c', rfl, hl⟩; have STG := Aside0.mk (STF.out.less (by simp) hl); clear hl) | (go_at_call 50; (with_reducible refine (over_less.callsN gly cy (some ⟨gly, offy, none⟩) s y ny HNy.out (min a.f1 s.f1) _ STG.out.swap.rx STG.out.swap.xc STG.out.swap.xm).mono ?_); rintro e w6 ⟨A', c', rfl, hl⟩; have STH := Aside0.mk (STG.out.swap.less (by simp) hl); clear hl))
            go_roundg kq
            case measure => omega
            case rel => exact ⟨glx, gly, _, _, _, _, _, _, _, _, rfl, rfl, ⟨STH.out.swap⟩, HC2⟩
           ·cases hc
          ·have d1y : (s.f0 == 1) = false := by simp [hs1]
           subst hv0 hv1 hBx hBy
           rw [overL, if_neg hs2, if_neg ha2] at hc
           simp only [mn_min] at hc
           rw [if_neg hs1] at hc
           have HC2 := Aside0.mk hc;clear hc HC ha2 hs2 hs1;go_wp2
           refine wp_region_noPanic ?_
           refine start_ (n := 10) (S := fun w' => w'.cell? ⟨glx, offx + 1, none⟩ = some (.int .i64 a.f1) ∧ w'.cell? ⟨gly, offy + 1, none⟩ = some (.int .i64 s.f1)) (ds := []) #[false, false, false, false, false, false, false, false, false, false] (by kernel_rfl) rfl rfl ⟨((blk_cell (blk_drew HBKx.out) (offx + 1)).trans QQx.out.2.1), ((blk_cell (blk_drew HBKy.out) (offy + 1)).trans QQy.out.2.1)⟩ (fun hHeld => ?_)
           refine pure_ (i := 0) (N := some 42) (v := ?_) (a' := ?_) #[true, false, false, false, false, false, false, false, false, false] rfl rfl (by kernel_rfl) (fun _ _ _ h => h) (Or.inl ⟨by rfl, ?_⟩) ?_ ?_
           rotate_left
           ·intro w'
            go_simp;with_reducible rfl
           rotate_left
           ·simp only [Act.put, zS, i64_w, i32_w]
            rfl
           refine pure_ (i := 1) (N := some 43) (v := ?_) (a' := ?_) #[true, true, false, false, false, false, false, false, false, false] rfl rfl (by kernel_rfl) (fun _ _ _ h => h) (Or.inl ⟨by rfl, ?_⟩) ?_ ?_
           rotate_left
           ·intro w'
            go_simp;with_reducible rfl
           rotate_left
           ·simp only [Act.put, zS, i64_w, i32_w]
            rfl
           refine pure_ (i := 2) (N := some 44) (v := ?_) (a' := ?_) #[true, true, true, false, false, false, false, false, false, false] rfl rfl (by kernel_rfl) (fun _ _ _ h => h) (Or.inl ⟨by rfl, ?_⟩) ?_ ?_
           rotate_left
           ·intro w'
            go_simp;with_reducible rfl
           rotate_left
           ·simp only [Act.put, zS, i64_w, i32_w]
            rfl
           refine pure_ (i := 4) (N := some 46) (v := ?_) (a' := ?_) #[true, true, true, false, true, false, false, false, false, false] rfl rfl (by kernel_rfl) (fun _ _ _ h => h) (Or.inl ⟨by rfl, ?_⟩) ?_ ?_
           rotate_left
           ·intro w'
            go_simp;with_reducible rfl
           rotate_left
           ·simp only [Act.put, zS, i64_w, i32_w]
            rfl
           refine pure_ (i := 5) (N := some 47) (v := ?_) (a' := ?_) #[true, true, true, false, true, true, false, false, false, false] rfl rfl (by kernel_rfl) (fun _ _ _ h => h) (Or.inl ⟨by rfl, ?_⟩) ?_ ?_
           rotate_left
           ·intro w'
            go_simp;with_reducible rfl
           rotate_left
           ·simp only [Act.put, zS, i64_w, i32_w]
            rfl
           refine pure_ (i := 6) (N := some 48) (v := ?_) (a' := ?_) #[true, true, true, false, true, true, true, false, false, false] rfl rfl (by kernel_rfl) (fun _ _ _ h => h) (Or.inl ⟨by rfl, ?_⟩) ?_ ?_
           rotate_left
           ·intro w'
            go_simp;with_reducible rfl
           rotate_left
           ·simp only [Act.put, zS, i64_w, i32_w]
            rfl
           refine take_ (i := 3) (N := some 45) (v := ?_) (a' := ?_) #[true, true, true, true, true, true, true, false, false, false] rfl rfl (by kernel_rfl) (fun _ _ _ h => h) (Or.inl ⟨by rfl, ?_⟩) hHeld ?_ ?_
           rotate_left
           ·rintro w' ⟨s0, s1⟩
            go_simp;with_reducible rfl
           rotate_left
           ·simp only [Act.put, zS, i64_w, i32_w]
            rfl
           refine take_ (i := 7) (N := some 49) (v := ?_) (a' := ?_) #[true, true, true, true, true, true, true, true, false, false] rfl rfl (by kernel_rfl) (fun _ _ _ h => h) (Or.inl ⟨by rfl, ?_⟩) hHeld ?_ ?_
           rotate_left
           ·rintro w' ⟨s0, s1⟩
            go_simp;with_reducible rfl
           rotate_left
           ·simp only [Act.put, zS, i64_w, i32_w]
            rfl
           refine pure_ (i := 8) (N := some 50) (v := ?_) (a' := ?_) #[true, true, true, true, true, true, true, true, true, false] rfl rfl (by kernel_rfl) (fun _ _ _ h => h) (Or.inl ⟨by rfl, ?_⟩) ?_ ?_
           rotate_left
           ·intro w'
            go_simp;with_reducible rfl
           rotate_left
           ·simp only [Act.put, zS, i64_w, i32_w]
            rfl
           refine pure_ (i := 9) (N := some 9) (v := ?_) (a' := ?_) #[true, true, true, true, true, true, true, true, true, true] rfl rfl (by kernel_rfl) (fun _ _ _ h => h) (Or.inl ⟨by rfl, ?_⟩) ?_ ?_
           rotate_left
           ·intro w'
            go_simp;with_reducible rfl
           rotate_left
           ·simp only [Act.put, zS, i64_w, i32_w]
            rfl
           refine done_ (by kernel_rfl) ?_
           refine NoPanic.normal ?_
           have ST0 := ST
           replace ST := Aside0.mk (ST0.out.below (below_drew1 (Below.refl _ _)))
           replace HBKx := Aside0.mk (blk_drew HBKx.out)
           replace HBKy := Aside0.mk (blk_drew HBKy.out)
           clear s0x s1x s2x s0y s1y s2y cL fL ST0;have s0x := (blk_cell HBKx.out offx).trans QQx.out.1
           have s1x := (blk_cell HBKx.out (offx + 1)).trans QQx.out.2.1
           have s2x := (blk_cell HBKx.out (offx + 2)).trans QQx.out.2.2
           have s0y := (blk_cell HBKy.out offy).trans QQy.out.1
           have s1y := (blk_cell HBKy.out (offy + 1)).trans QQy.out.2.1
           have s2y := (blk_cell HBKy.out (offy + 2)).trans QQy.out.2.2
           have cL := (blk_cell ST.out.c 0).trans (show _ = some (Value.slice Av o.length cv) from rfl)
           have fL := blk_frozen ST.out.c 0
           go_wp2_with (first | (go_at_call 50; (with_reducible refine (over_less.callsN glx cx (some ⟨glx, offx, none⟩) a x nx HNx.out (min a.f1 s.f1) _ ST.out.rx ST.out.xc ST.out.xm).mono ?_); rintro e w6 ⟨A', c', rfl, hl⟩; have STG := Aside0.mk (ST.out.less (by simp) hl); clear hl) | (go_at_call 50; (with_reducible refine (over_less.callsN gly cy (some ⟨gly, offy, none⟩) s y ny HNy.out (min a.f1 s.f1) _ STG.out.swap.rx STG.out.swap.xc STG.out.swap.xm).mono ?_); rintro e w6 ⟨A', c', rfl, hl⟩; have STH := Aside0.mk (STG.out.swap.less (by simp) hl); clear hl))
           go_roundg kq
           case measure => omega
           case rel => exact ⟨glx, gly, _, _, _, _, _, _, _, _, rfl, rfl, ⟨STH.out.swap⟩, HC2⟩
   ·rw [if_neg hz] at hrest
    obtain ⟨rfl, rfl⟩ : [] = r1 ∧ 5 = r2 := by simpa using hrest
    have d1 : (n != m) = true := by simp [hz]
    clear hrest hz;go_wp2_with (first | (go_at_call 45; (with_reducible refine (op_In.calls k _ _ l0 n _ (HG.out.below HBW.out) (Kd.C_below HR0.out HBW.out) HC0.out HN.out).mono ?_); rintro e w1 ⟨rfl, hb⟩; have HB1 := Aside0.mk hb; clear hb) | (go_at_call 45; (with_reducible refine (op_In.calls k _ _ l1 m _ (HG.out.below (below_step HBW.out HB1.out)) (Kd.C_below HR1.out (below_step HBW.out HB1.out)) HC1.out HMM.out).mono ?_); rintro e w2 ⟨rfl, hb⟩; have HB2 := Aside0.mk (below_step HB1.out hb); have cb := (blk_cell (blk_below HBX.out (below_step HB1.out hb)) 0).trans (show _ = some (Value.slice none 0 0) from rfl); have fb := blk_frozen (blk_below HBX.out (below_step HB1.out hb)) 0; clear hb))
    have cz := (blk_cell (blk_put (blk_below HBX.out HB2.out) 0 (.slice none 0 0) rfl) 0).trans (show _ = some (Value.slice none 0 0) from rfl)
    try rw [Exit.noGoto_ret]
    refine ⟨.tuple #[.slice none 0 0, .int .i64 5], by simp [results, Tryd.results15, Tryd.f15, go_sem, cz], _, rfl, Kd.R_nil _ _ _ _ _, (below_step HBW.out HB2.out).setCell (p := ⟨w.heap.size, 0, none⟩) (Nat.le_refl _) _⟩
end Go.Proofs.YtkefbljogjcodaaDoor.F
end
section
namespace Go.Proofs.YtkefbljogjcodaaDoor.F
open Go.RowKit Go.Proofs.YtkefbljogjcodaaDoorW.PrintWords Go.Proofs.YtkefbljogjcodaaDoorW.PrintLast Go.Proofs.YtkefbljogjcodaaDoorW.PrintMore
attribute [local go_sem] max2_int min2_int max_two min_two max_three min_three max_four min_four cell_setCell_isSome
set_option linter.unusedVariables false
set_option linter.unusedSimpArgs false
open Kd
def epitomelaw11_shown.f (k : Nat)  : Option (Bool) := (epitomelaw11_spans.f k (⟨#[107, 49, 121, 49, 107, 50]⟩ : ByteArray)).bind fun t101 => ((epitomelaw11_spans.f k (⟨#[107, 49, 100, 49, 120, 49, 107, 49]⟩ : ByteArray)).bind fun t104 => ((over_Of.f k t101 t104).bind fun bt107 => ((epitomelaw11_spans.f k (⟨#[107, 49, 121, 49, 107, 50]⟩ : ByteArray)).bind fun t111 => ((epitomelaw11_spans.f k (⟨#[107, 49, 120, 49, 100, 49, 107, 49]⟩ : ByteArray)).bind fun t114 => ((over_Of.f k t111 t114).bind fun bt117 => (if bt107.2 = 0 then (if bt117.2 = 0 then ((epitomelaw11_spans.f k (⟨#[107, 49, 121, 49, 107, 50]⟩ : ByteArray)).bind fun t121 => ((epitomeref04_Same.f k bt107.1 t121).bind fun t124 => (if t124 = true then ((epitomelaw11_spans.f k (⟨#[107, 50, 121, 49, 107, 49]⟩ : ByteArray)).bind fun t125 => ((epitomeref04_Same.f k bt117.1 t125).bind fun t128 => (some t128))) else (some false)))) else (some false)) else (some false)))))))
theorem epitomelaw11_shown.mono : ∀ k, LeO (epitomelaw11_shown.f k ) (epitomelaw11_shown.f (k + 1) ) := by
  intro  k
  unfold epitomelaw11_shown.f
  repeat' first
      | (with_reducible exact epitomelaw11_spans.mono _ _)
      | (with_reducible exact epitomeref04_Same.mono _ _ _)
      | (with_reducible exact over_Of.mono _ _ _)
      | (with_reducible exact LeO.refl _)
      | (with_reducible exact LeO.none _)
      | (with_reducible refine LeO.ite ?_ ?_)
      | (with_reducible refine LeO.bind ?_ (fun _ => ?_))
      | exact epitomelaw11_spans.mono _ _
      | exact epitomeref04_Same.mono _ _ _
      | exact over_Of.mono _ _ _
      | exact LeO.none _
      | refine LeO.ite ?_ ?_
      | refine LeO.bind ?_ (fun _ => ?_)
set_option maxHeartbeats 40000000 in
set_option maxRecDepth 100000 in
theorem epitomelaw11_shown.calls (k : Nat)  (r : Bool) (w : World) (hG : Glob w) (h : epitomelaw11_shown.f k  = some r) :
  Calls Tryd.prog 29 #[] w fun e w' => e = .returned (.bool r) ∧ Below w.heap.size w w' := by
 have HG := Am hG;clear hG;have HB := Am (Below.refl w.heap.size w)
 have H : ((epitomelaw11_spans.f k (⟨#[107, 49, 121, 49, 107, 50]⟩ : ByteArray)).bind fun t101 => ((epitomelaw11_spans.f k (⟨#[107, 49, 100, 49, 120, 49, 107, 49]⟩ : ByteArray)).bind fun t104 => ((over_Of.f k t101 t104).bind fun bt107 => ((epitomelaw11_spans.f k (⟨#[107, 49, 121, 49, 107, 50]⟩ : ByteArray)).bind fun t111 => ((epitomelaw11_spans.f k (⟨#[107, 49, 120, 49, 100, 49, 107, 49]⟩ : ByteArray)).bind fun t114 => ((over_Of.f k t111 t114).bind fun bt117 => (if bt107.2 = 0 then (if bt117.2 = 0 then ((epitomelaw11_spans.f k (⟨#[107, 49, 121, 49, 107, 50]⟩ : ByteArray)).bind fun t121 => ((epitomeref04_Same.f k bt107.1 t121).bind fun t124 => (if t124 = true then ((epitomelaw11_spans.f k (⟨#[107, 50, 121, 49, 107, 49]⟩ : ByteArray)).bind fun t125 => ((epitomeref04_Same.f k bt117.1 t125).bind fun t128 => (some t128))) else (some false)))) else (some false)) else (some false)))))))) = some r := h
 clear h;replace H := Option.bind_eq_some_iff.mp H;obtain ⟨t101, A10, H⟩ := H;have A1 := Am A10;clear A10;replace H := Option.bind_eq_some_iff.mp H;obtain ⟨t104, A20, H⟩ := H;have A2 := Am A20;clear A20;replace H := Option.bind_eq_some_iff.mp H;obtain ⟨⟨t107, t108⟩, A30, H⟩ := H;have A3 := Am A30;clear A30;replace H := Option.bind_eq_some_iff.mp H;obtain ⟨t111, A40, H⟩ := H;have A4 := Am A40;clear A40;replace H := Option.bind_eq_some_iff.mp H;obtain ⟨t114, A50, H⟩ := H;have A5 := Am A50;clear A50;replace H := Option.bind_eq_some_iff.mp H;obtain ⟨⟨t117, t118⟩, A60, H⟩ := H;have A6 := Am A60;clear A60;by_cases c7 : t108 = 0
 ·rw [if_pos c7] at H;have c7b0 : (t108 == 0) = true := beq_iff_eq.mpr c7
  have c7b1 : (t108 != 0) = false := bne_eq_false_iff_eq.mpr c7
  clear c7;by_cases c8 : t118 = 0
  ·rw [if_pos c8] at H;have c8b0 : (t118 == 0) = true := beq_iff_eq.mpr c8
   have c8b1 : (t118 != 0) = false := bne_eq_false_iff_eq.mpr c8
   clear c8;replace H := Option.bind_eq_some_iff.mp H;obtain ⟨t121, A90, H⟩ := H;have A9 := Am A90;clear A90;replace H := Option.bind_eq_some_iff.mp H;obtain ⟨t124, A100, H⟩ := H;have A10 := Am A100;clear A100;by_cases c11 : t124 = true
   ·subst c11
    have H1 : ((epitomelaw11_spans.f k (⟨#[107, 50, 121, 49, 107, 49]⟩ : ByteArray)).bind fun t125 => ((epitomeref04_Same.f k t117 t125).bind fun t128 => (some t128))) = some r := by rw [if_pos rfl] at H; exact H
    clear H;have H := H1
    clear H1;replace H := Option.bind_eq_some_iff.mp H;obtain ⟨t125, A120, H⟩ := H;replace H : ((epitomeref04_Same.f k t117 t125).bind fun t128 => (some t128)) = some r := H
    have A12 := Am A120;clear A120;replace H := Option.bind_eq_some_iff.mp H;obtain ⟨t128, A130, H⟩ := H;replace H : (some t128) = some r := H
    have A13 := Am A130;clear A130;obtain rfl := Option.some.inj H;go_enter Tryd.func29, Tryd.ntmps29
    go_wp2_with (first | ((with_reducible refine gate_callee (f := 65) rfl ?_); refine goesL_ (some 6) rfl rfl Tryd.func65 (by kernel_rfl) rfl #[.string (⟨#[107, 49, 121, 49, 107, 50]⟩ : ByteArray)] rfl zE ?_; (with_reducible refine (epitomelaw11_spans.calls k (⟨#[107, 49, 121, 49, 107, 50]⟩ : ByteArray) t101 _ A1.out).mono ?_); rintro e w14 ⟨v102, rfl, ho0, hb⟩; refine ⟨_, rfl, ?_⟩; have HO103 := Am (R_lower ho0 (below_size (zB HB)));replace HB := Am (below_step (zB HB) hb); (try clear hb); (try clear ho0); (try clear A1)) | ((with_reducible refine gate_callee (f := 65) rfl ?_); refine goesL_ (some 7) rfl rfl Tryd.func65 (by kernel_rfl) rfl #[.string (⟨#[107, 49, 100, 49, 120, 49, 107, 49]⟩ : ByteArray)] rfl zE ?_; (with_reducible refine (epitomelaw11_spans.calls k (⟨#[107, 49, 100, 49, 120, 49, 107, 49]⟩ : ByteArray) t104 _ A2.out).mono ?_); rintro e w15 ⟨v105, rfl, ho0, hb⟩; refine ⟨_, rfl, ?_⟩; have HO106 := Am (R_lower (zn ho0 HO103) (below_size (zB HB)));replace HO103 := Am (zr HO103 ho0 hb);replace HB := Am (below_step (zB HB) hb); (try clear hb); (try clear ho0); obtain ⟨Ao16, co16, eo16⟩ := R_slice HO103.out; subst eo16; obtain ⟨Ao17, co17, eo17⟩ := R_slice HO106.out; subst eo17; (try clear A2)) | ((with_reducible refine gate_callee (f := 15) rfl ?_); refine goesL_ (some 8) rfl rfl Tryd.func15 (by kernel_rfl) rfl #[.slice Ao16 t101.length co16, .slice Ao17 t104.length co17] rfl zE ?_; (with_reducible refine (over_Of.calls k _ _ t101 _ _ t104 t107 t108 _ ?side1 ?side2 ?side3 ?side4 ?side5 A3.out).mono ?_); (case side1 => exact zg HG HB); (case side2 => exact zI (R_reads' HO103.out).2.2); (case side3 => exact (R_reads' HO103.out).2.1); (case side4 => exact zI (R_reads' HO106.out).2.2); (case side5 => exact (R_reads' HO106.out).2.1); rintro e w18 ⟨v109, rfl, ho0, hb⟩; refine ⟨_, rfl, ?_⟩; have HO110 := Am (R_lower (zn (zn ho0 HO103) HO106) (below_size (zB HB)));replace HO103 := Am (zr HO103 ho0 hb);replace HO106 := Am (zr HO106 ho0 hb);replace HB := Am (below_step (zB HB) hb); (try clear hb); (try clear ho0); (try clear A3)) | ((with_reducible refine gate_callee (f := 65) rfl ?_); refine goesL_ (some 12) rfl rfl Tryd.func65 (by kernel_rfl) rfl #[.string (⟨#[107, 49, 121, 49, 107, 50]⟩ : ByteArray)] rfl zE ?_; (with_reducible refine (epitomelaw11_spans.calls k (⟨#[107, 49, 121, 49, 107, 50]⟩ : ByteArray) t111 _ A4.out).mono ?_); rintro e w19 ⟨v112, rfl, ho0, hb⟩; refine ⟨_, rfl, ?_⟩; have HO113 := Am (R_lower (zn (zn (zn ho0 HO103) HO106) HO110) (below_size (zB HB)));replace HO103 := Am (zr HO103 ho0 hb);replace HO106 := Am (zr HO106 ho0 hb);replace HO110 := Am (zr HO110 ho0 hb);replace HB := Am (below_step (zB HB) hb); (try clear hb); (try clear ho0); (try clear A4)) | ((with_reducible refine gate_callee (f := 65) rfl ?_); refine goesL_ (some 13) rfl rfl Tryd.func65 (by kernel_rfl) rfl #[.string (⟨#[107, 49, 120, 49, 100, 49, 107, 49]⟩ : ByteArray)] rfl zE ?_; (with_reducible refine (epitomelaw11_spans.calls k (⟨#[107, 49, 120, 49, 100, 49, 107, 49]⟩ : ByteArray) t114 _ A5.out).mono ?_); rintro e w20 ⟨v115, rfl, ho0, hb⟩; refine ⟨_, rfl, ?_⟩; have HO116 := Am (R_lower (zn (zn (zn (zn ho0 HO103) HO106) HO110) HO113) (below_size (zB HB)));replace HO103 := Am (zr HO103 ho0 hb);replace HO106 := Am (zr HO106 ho0 hb);replace HO110 := Am (zr HO110 ho0 hb);replace HO113 := Am (zr HO113 ho0 hb);replace HB := Am (below_step (zB HB) hb); (try clear hb); (try clear ho0); obtain ⟨Ao21, co21, eo21⟩ := R_slice HO113.out; subst eo21; obtain ⟨Ao22, co22, eo22⟩ := R_slice HO116.out; subst eo22; (try clear A5)) | ((with_reducible refine gate_callee (f := 15) rfl ?_); refine goesL_ (some 14) rfl rfl Tryd.func15 (by kernel_rfl) rfl #[.slice Ao21 t111.length co21, .slice Ao22 t114.length co22] rfl zE ?_; (with_reducible refine (over_Of.calls k _ _ t111 _ _ t114 t117 t118 _ ?side1 ?side2 ?side3 ?side4 ?side5 A6.out).mono ?_); (case side1 => exact zg HG HB); (case side2 => exact zI (R_reads' HO113.out).2.2); (case side3 => exact (R_reads' HO113.out).2.1); (case side4 => exact zI (R_reads' HO116.out).2.2); (case side5 => exact (R_reads' HO116.out).2.1); rintro e w23 ⟨v119, rfl, ho0, hb⟩; refine ⟨_, rfl, ?_⟩; have HO120 := Am (R_lower (zn (zn (zn (zn (zn ho0 HO103) HO106) HO110) HO113) HO116) (below_size (zB HB)));replace HO103 := Am (zr HO103 ho0 hb);replace HO106 := Am (zr HO106 ho0 hb);replace HO110 := Am (zr HO110 ho0 hb);replace HO113 := Am (zr HO113 ho0 hb);replace HO116 := Am (zr HO116 ho0 hb);replace HB := Am (below_step (zB HB) hb); (try clear hb); (try clear ho0); (try clear A6)) | (go_at_call 65; (with_reducible refine (epitomelaw11_spans.calls k (⟨#[107, 49, 121, 49, 107, 50]⟩ : ByteArray) t121 _ A9.out).mono ?_); rintro e w24 ⟨v122, rfl, ho0, hb⟩; have HO123 := Am (R_lower (zn (zn (zn (zn (zn (zn ho0 HO103) HO106) HO110) HO113) HO116) HO120) (below_size (zB HB)));replace HO103 := Am (zr HO103 ho0 hb);replace HO106 := Am (zr HO106 ho0 hb);replace HO110 := Am (zr HO110 ho0 hb);replace HO113 := Am (zr HO113 ho0 hb);replace HO116 := Am (zr HO116 ho0 hb);replace HO120 := Am (zr HO120 ho0 hb);replace HB := Am (below_step (zB HB) hb); (try clear hb); (try clear ho0); obtain ⟨Ao25, co25, eo25⟩ := R_slice HO110.out; subst eo25; obtain ⟨Ao26, co26, eo26⟩ := R_slice HO123.out; subst eo26; (try clear A9)) | (go_at_call 18; (with_reducible refine (epitomeref04_Same.calls k _ _ t107 _ _ t121 true _ ?side1 ?side2 ?side3 ?side4 A10.out).mono ?_); (case side1 => exact zI (R_reads' HO110.out).2.2); (case side2 => exact (R_reads' HO110.out).2.1); (case side3 => exact zI (R_reads' HO123.out).2.2); (case side4 => exact (R_reads' HO123.out).2.1); rintro e w' ⟨rfl, ⟨nd, rfl⟩⟩; (try clear A10)) | (go_at_call 65; (with_reducible refine (epitomelaw11_spans.calls k (⟨#[107, 50, 121, 49, 107, 49]⟩ : ByteArray) t125 _ A12.out).mono ?_); rintro e w27 ⟨v126, rfl, ho0, hb⟩; have HO127 := Am (R_lower (zn (zn (zn (zn (zn (zn (zn ho0 HO103) HO106) HO110) HO113) HO116) HO120) HO123) (below_size (zB HB)));replace HO103 := Am (zr HO103 ho0 hb);replace HO106 := Am (zr HO106 ho0 hb);replace HO110 := Am (zr HO110 ho0 hb);replace HO113 := Am (zr HO113 ho0 hb);replace HO116 := Am (zr HO116 ho0 hb);replace HO120 := Am (zr HO120 ho0 hb);replace HO123 := Am (zr HO123 ho0 hb);replace HB := Am (below_step (zB HB) hb); (try clear hb); (try clear ho0); obtain ⟨Ao28, co28, eo28⟩ := R_slice HO120.out; subst eo28; obtain ⟨Ao29, co29, eo29⟩ := R_slice HO127.out; subst eo29; (try clear A12)) | (go_at_call 18; (with_reducible refine (epitomeref04_Same.calls k _ _ t117 _ _ t125 t128 _ ?side1 ?side2 ?side3 ?side4 A13.out).mono ?_); (case side1 => exact zI (R_reads' HO120.out).2.2); (case side2 => exact (R_reads' HO120.out).2.1); (case side3 => exact zI (R_reads' HO127.out).2.2); (case side4 => exact (R_reads' HO127.out).2.1); rintro e w' ⟨rfl, ⟨nd, rfl⟩⟩; (try clear A13)))
    go_ret
    exact ⟨zF, (zB HB)⟩
   ·replace c11 := Bool.eq_false_iff.mpr c11
    subst c11
    have H1 : (some false) = some r := by rw [if_neg (show ¬ (false = true) by decide)] at H; exact H
    clear H;have H := H1
    clear H1;obtain rfl := Option.some.inj H;go_enter Tryd.func29, Tryd.ntmps29
    go_wp2_with (first | ((with_reducible refine gate_callee (f := 65) rfl ?_); refine goesL_ (some 6) rfl rfl Tryd.func65 (by kernel_rfl) rfl #[.string (⟨#[107, 49, 121, 49, 107, 50]⟩ : ByteArray)] rfl zE ?_; (with_reducible refine (epitomelaw11_spans.calls k (⟨#[107, 49, 121, 49, 107, 50]⟩ : ByteArray) t101 _ A1.out).mono ?_); rintro e w30 ⟨v102, rfl, ho0, hb⟩; refine ⟨_, rfl, ?_⟩; have HO103 := Am (R_lower ho0 (below_size (zB HB)));replace HB := Am (below_step (zB HB) hb); (try clear hb); (try clear ho0); (try clear A1)) | ((with_reducible refine gate_callee (f := 65) rfl ?_); refine goesL_ (some 7) rfl rfl Tryd.func65 (by kernel_rfl) rfl #[.string (⟨#[107, 49, 100, 49, 120, 49, 107, 49]⟩ : ByteArray)] rfl zE ?_; (with_reducible refine (epitomelaw11_spans.calls k (⟨#[107, 49, 100, 49, 120, 49, 107, 49]⟩ : ByteArray) t104 _ A2.out).mono ?_); rintro e w31 ⟨v105, rfl, ho0, hb⟩; refine ⟨_, rfl, ?_⟩; have HO106 := Am (R_lower (zn ho0 HO103) (below_size (zB HB)));replace HO103 := Am (zr HO103 ho0 hb);replace HB := Am (below_step (zB HB) hb); (try clear hb); (try clear ho0); obtain ⟨Ao32, co32, eo32⟩ := R_slice HO103.out; subst eo32; obtain ⟨Ao33, co33, eo33⟩ := R_slice HO106.out; subst eo33; (try clear A2)) | ((with_reducible refine gate_callee (f := 15) rfl ?_); refine goesL_ (some 8) rfl rfl Tryd.func15 (by kernel_rfl) rfl #[.slice Ao32 t101.length co32, .slice Ao33 t104.length co33] rfl zE ?_; (with_reducible refine (over_Of.calls k _ _ t101 _ _ t104 t107 t108 _ ?side1 ?side2 ?side3 ?side4 ?side5 A3.out).mono ?_); (case side1 => exact zg HG HB); (case side2 => exact zI (R_reads' HO103.out).2.2); (case side3 => exact (R_reads' HO103.out).2.1); (case side4 => exact zI (R_reads' HO106.out).2.2); (case side5 => exact (R_reads' HO106.out).2.1); rintro e w34 ⟨v109, rfl, ho0, hb⟩; refine ⟨_, rfl, ?_⟩; have HO110 := Am (R_lower (zn (zn ho0 HO103) HO106) (below_size (zB HB)));replace HO103 := Am (zr HO103 ho0 hb);replace HO106 := Am (zr HO106 ho0 hb);replace HB := Am (below_step (zB HB) hb); (try clear hb); (try clear ho0); (try clear A3)) | ((with_reducible refine gate_callee (f := 65) rfl ?_); refine goesL_ (some 12) rfl rfl Tryd.func65 (by kernel_rfl) rfl #[.string (⟨#[107, 49, 121, 49, 107, 50]⟩ : ByteArray)] rfl zE ?_; (with_reducible refine (epitomelaw11_spans.calls k (⟨#[107, 49, 121, 49, 107, 50]⟩ : ByteArray) t111 _ A4.out).mono ?_); rintro e w35 ⟨v112, rfl, ho0, hb⟩; refine ⟨_, rfl, ?_⟩; have HO113 := Am (R_lower (zn (zn (zn ho0 HO103) HO106) HO110) (below_size (zB HB)));replace HO103 := Am (zr HO103 ho0 hb);replace HO106 := Am (zr HO106 ho0 hb);replace HO110 := Am (zr HO110 ho0 hb);replace HB := Am (below_step (zB HB) hb); (try clear hb); (try clear ho0); (try clear A4)) | ((with_reducible refine gate_callee (f := 65) rfl ?_); refine goesL_ (some 13) rfl rfl Tryd.func65 (by kernel_rfl) rfl #[.string (⟨#[107, 49, 120, 49, 100, 49, 107, 49]⟩ : ByteArray)] rfl zE ?_; (with_reducible refine (epitomelaw11_spans.calls k (⟨#[107, 49, 120, 49, 100, 49, 107, 49]⟩ : ByteArray) t114 _ A5.out).mono ?_); rintro e w36 ⟨v115, rfl, ho0, hb⟩; refine ⟨_, rfl, ?_⟩; have HO116 := Am (R_lower (zn (zn (zn (zn ho0 HO103) HO106) HO110) HO113) (below_size (zB HB)));replace HO103 := Am (zr HO103 ho0 hb);replace HO106 := Am (zr HO106 ho0 hb);replace HO110 := Am (zr HO110 ho0 hb);replace HO113 := Am (zr HO113 ho0 hb);replace HB := Am (below_step (zB HB) hb); (try clear hb); (try clear ho0); obtain ⟨Ao37, co37, eo37⟩ := R_slice HO113.out; subst eo37; obtain ⟨Ao38, co38, eo38⟩ := R_slice HO116.out; subst eo38; (try clear A5)) | ((with_reducible refine gate_callee (f := 15) rfl ?_); refine goesL_ (some 14) rfl rfl Tryd.func15 (by kernel_rfl) rfl #[.slice Ao37 t111.length co37, .slice Ao38 t114.length co38] rfl zE ?_; (with_reducible refine (over_Of.calls k _ _ t111 _ _ t114 t117 t118 _ ?side1 ?side2 ?side3 ?side4 ?side5 A6.out).mono ?_); (case side1 => exact zg HG HB); (case side2 => exact zI (R_reads' HO113.out).2.2); (case side3 => exact (R_reads' HO113.out).2.1); (case side4 => exact zI (R_reads' HO116.out).2.2); (case side5 => exact (R_reads' HO116.out).2.1); rintro e w39 ⟨v119, rfl, ho0, hb⟩; refine ⟨_, rfl, ?_⟩; have HO120 := Am (R_lower (zn (zn (zn (zn (zn ho0 HO103) HO106) HO110) HO113) HO116) (below_size (zB HB)));replace HO103 := Am (zr HO103 ho0 hb);replace HO106 := Am (zr HO106 ho0 hb);replace HO110 := Am (zr HO110 ho0 hb);replace HO113 := Am (zr HO113 ho0 hb);replace HO116 := Am (zr HO116 ho0 hb);replace HB := Am (below_step (zB HB) hb); (try clear hb); (try clear ho0); (try clear A6)) | (go_at_call 65; (with_reducible refine (epitomelaw11_spans.calls k (⟨#[107, 49, 121, 49, 107, 50]⟩ : ByteArray) t121 _ A9.out).mono ?_); rintro e w40 ⟨v122, rfl, ho0, hb⟩; have HO123 := Am (R_lower (zn (zn (zn (zn (zn (zn ho0 HO103) HO106) HO110) HO113) HO116) HO120) (below_size (zB HB)));replace HO103 := Am (zr HO103 ho0 hb);replace HO106 := Am (zr HO106 ho0 hb);replace HO110 := Am (zr HO110 ho0 hb);replace HO113 := Am (zr HO113 ho0 hb);replace HO116 := Am (zr HO116 ho0 hb);replace HO120 := Am (zr HO120 ho0 hb);replace HB := Am (below_step (zB HB) hb); (try clear hb); (try clear ho0); obtain ⟨Ao41, co41, eo41⟩ := R_slice HO110.out; subst eo41; obtain ⟨Ao42, co42, eo42⟩ := R_slice HO123.out; subst eo42; (try clear A9)) | (go_at_call 18; (with_reducible refine (epitomeref04_Same.calls k _ _ t107 _ _ t121 false _ ?side1 ?side2 ?side3 ?side4 A10.out).mono ?_); (case side1 => exact zI (R_reads' HO110.out).2.2); (case side2 => exact (R_reads' HO110.out).2.1); (case side3 => exact zI (R_reads' HO123.out).2.2); (case side4 => exact (R_reads' HO123.out).2.1); rintro e w' ⟨rfl, ⟨nd, rfl⟩⟩))
    go_ret
    exact ⟨zF, (zB HB)⟩
  ·rw [if_neg c8] at H;have c8b0 : (t118 == 0) = false := beq_eq_false_iff_ne.mpr c8
   have c8b1 : (t118 != 0) = true := bne_iff_ne.mpr c8
   obtain rfl := Option.some.inj H;go_enter Tryd.func29, Tryd.ntmps29
   go_wp2_with (first | ((with_reducible refine gate_callee (f := 65) rfl ?_); refine goesL_ (some 6) rfl rfl Tryd.func65 (by kernel_rfl) rfl #[.string (⟨#[107, 49, 121, 49, 107, 50]⟩ : ByteArray)] rfl zE ?_; (with_reducible refine (epitomelaw11_spans.calls k (⟨#[107, 49, 121, 49, 107, 50]⟩ : ByteArray) t101 _ A1.out).mono ?_); rintro e w43 ⟨v102, rfl, ho0, hb⟩; refine ⟨_, rfl, ?_⟩; have HO103 := Am (R_lower ho0 (below_size (zB HB)));replace HB := Am (below_step (zB HB) hb); (try clear hb); (try clear ho0); (try clear A1)) | ((with_reducible refine gate_callee (f := 65) rfl ?_); refine goesL_ (some 7) rfl rfl Tryd.func65 (by kernel_rfl) rfl #[.string (⟨#[107, 49, 100, 49, 120, 49, 107, 49]⟩ : ByteArray)] rfl zE ?_; (with_reducible refine (epitomelaw11_spans.calls k (⟨#[107, 49, 100, 49, 120, 49, 107, 49]⟩ : ByteArray) t104 _ A2.out).mono ?_); rintro e w44 ⟨v105, rfl, ho0, hb⟩; refine ⟨_, rfl, ?_⟩; have HO106 := Am (R_lower (zn ho0 HO103) (below_size (zB HB)));replace HO103 := Am (zr HO103 ho0 hb);replace HB := Am (below_step (zB HB) hb); (try clear hb); (try clear ho0); obtain ⟨Ao45, co45, eo45⟩ := R_slice HO103.out; subst eo45; obtain ⟨Ao46, co46, eo46⟩ := R_slice HO106.out; subst eo46; (try clear A2)) | ((with_reducible refine gate_callee (f := 15) rfl ?_); refine goesL_ (some 8) rfl rfl Tryd.func15 (by kernel_rfl) rfl #[.slice Ao45 t101.length co45, .slice Ao46 t104.length co46] rfl zE ?_; (with_reducible refine (over_Of.calls k _ _ t101 _ _ t104 t107 t108 _ ?side1 ?side2 ?side3 ?side4 ?side5 A3.out).mono ?_); (case side1 => exact zg HG HB); (case side2 => exact zI (R_reads' HO103.out).2.2); (case side3 => exact (R_reads' HO103.out).2.1); (case side4 => exact zI (R_reads' HO106.out).2.2); (case side5 => exact (R_reads' HO106.out).2.1); rintro e w47 ⟨v109, rfl, ho0, hb⟩; refine ⟨_, rfl, ?_⟩; have HO110 := Am (R_lower (zn (zn ho0 HO103) HO106) (below_size (zB HB)));replace HO103 := Am (zr HO103 ho0 hb);replace HO106 := Am (zr HO106 ho0 hb);replace HB := Am (below_step (zB HB) hb); (try clear hb); (try clear ho0); (try clear A3)) | ((with_reducible refine gate_callee (f := 65) rfl ?_); refine goesL_ (some 12) rfl rfl Tryd.func65 (by kernel_rfl) rfl #[.string (⟨#[107, 49, 121, 49, 107, 50]⟩ : ByteArray)] rfl zE ?_; (with_reducible refine (epitomelaw11_spans.calls k (⟨#[107, 49, 121, 49, 107, 50]⟩ : ByteArray) t111 _ A4.out).mono ?_); rintro e w48 ⟨v112, rfl, ho0, hb⟩; refine ⟨_, rfl, ?_⟩; have HO113 := Am (R_lower (zn (zn (zn ho0 HO103) HO106) HO110) (below_size (zB HB)));replace HO103 := Am (zr HO103 ho0 hb);replace HO106 := Am (zr HO106 ho0 hb);replace HO110 := Am (zr HO110 ho0 hb);replace HB := Am (below_step (zB HB) hb); (try clear hb); (try clear ho0); (try clear A4)) | ((with_reducible refine gate_callee (f := 65) rfl ?_); refine goesL_ (some 13) rfl rfl Tryd.func65 (by kernel_rfl) rfl #[.string (⟨#[107, 49, 120, 49, 100, 49, 107, 49]⟩ : ByteArray)] rfl zE ?_; (with_reducible refine (epitomelaw11_spans.calls k (⟨#[107, 49, 120, 49, 100, 49, 107, 49]⟩ : ByteArray) t114 _ A5.out).mono ?_); rintro e w49 ⟨v115, rfl, ho0, hb⟩; refine ⟨_, rfl, ?_⟩; have HO116 := Am (R_lower (zn (zn (zn (zn ho0 HO103) HO106) HO110) HO113) (below_size (zB HB)));replace HO103 := Am (zr HO103 ho0 hb);replace HO106 := Am (zr HO106 ho0 hb);replace HO110 := Am (zr HO110 ho0 hb);replace HO113 := Am (zr HO113 ho0 hb);replace HB := Am (below_step (zB HB) hb); (try clear hb); (try clear ho0); obtain ⟨Ao50, co50, eo50⟩ := R_slice HO113.out; subst eo50; obtain ⟨Ao51, co51, eo51⟩ := R_slice HO116.out; subst eo51; (try clear A5)) | ((with_reducible refine gate_callee (f := 15) rfl ?_); refine goesL_ (some 14) rfl rfl Tryd.func15 (by kernel_rfl) rfl #[.slice Ao50 t111.length co50, .slice Ao51 t114.length co51] rfl zE ?_; (with_reducible refine (over_Of.calls k _ _ t111 _ _ t114 t117 t118 _ ?side1 ?side2 ?side3 ?side4 ?side5 A6.out).mono ?_); (case side1 => exact zg HG HB); (case side2 => exact zI (R_reads' HO113.out).2.2); (case side3 => exact (R_reads' HO113.out).2.1); (case side4 => exact zI (R_reads' HO116.out).2.2); (case side5 => exact (R_reads' HO116.out).2.1); rintro e w52 ⟨v119, rfl, ho0, hb⟩; refine ⟨_, rfl, ?_⟩; have HO120 := Am (R_lower (zn (zn (zn (zn (zn ho0 HO103) HO106) HO110) HO113) HO116) (below_size (zB HB)));replace HO103 := Am (zr HO103 ho0 hb);replace HO106 := Am (zr HO106 ho0 hb);replace HO110 := Am (zr HO110 ho0 hb);replace HO113 := Am (zr HO113 ho0 hb);replace HO116 := Am (zr HO116 ho0 hb);replace HB := Am (below_step (zB HB) hb); (try clear hb); (try clear ho0); (try clear A6)))
   go_ret
   exact ⟨zF, (zB HB)⟩
 ·rw [if_neg c7] at H;have c7b0 : (t108 == 0) = false := beq_eq_false_iff_ne.mpr c7
  have c7b1 : (t108 != 0) = true := bne_iff_ne.mpr c7
  obtain rfl := Option.some.inj H;go_enter Tryd.func29, Tryd.ntmps29
  go_wp2_with (first | ((with_reducible refine gate_callee (f := 65) rfl ?_); refine goesL_ (some 6) rfl rfl Tryd.func65 (by kernel_rfl) rfl #[.string (⟨#[107, 49, 121, 49, 107, 50]⟩ : ByteArray)] rfl zE ?_; (with_reducible refine (epitomelaw11_spans.calls k (⟨#[107, 49, 121, 49, 107, 50]⟩ : ByteArray) t101 _ A1.out).mono ?_); rintro e w53 ⟨v102, rfl, ho0, hb⟩; refine ⟨_, rfl, ?_⟩; have HO103 := Am (R_lower ho0 (below_size (zB HB)));replace HB := Am (below_step (zB HB) hb); (try clear hb); (try clear ho0); (try clear A1)) | ((with_reducible refine gate_callee (f := 65) rfl ?_); refine goesL_ (some 7) rfl rfl Tryd.func65 (by kernel_rfl) rfl #[.string (⟨#[107, 49, 100, 49, 120, 49, 107, 49]⟩ : ByteArray)] rfl zE ?_; (with_reducible refine (epitomelaw11_spans.calls k (⟨#[107, 49, 100, 49, 120, 49, 107, 49]⟩ : ByteArray) t104 _ A2.out).mono ?_); rintro e w54 ⟨v105, rfl, ho0, hb⟩; refine ⟨_, rfl, ?_⟩; have HO106 := Am (R_lower (zn ho0 HO103) (below_size (zB HB)));replace HO103 := Am (zr HO103 ho0 hb);replace HB := Am (below_step (zB HB) hb); (try clear hb); (try clear ho0); obtain ⟨Ao55, co55, eo55⟩ := R_slice HO103.out; subst eo55; obtain ⟨Ao56, co56, eo56⟩ := R_slice HO106.out; subst eo56; (try clear A2)) | ((with_reducible refine gate_callee (f := 15) rfl ?_); refine goesL_ (some 8) rfl rfl Tryd.func15 (by kernel_rfl) rfl #[.slice Ao55 t101.length co55, .slice Ao56 t104.length co56] rfl zE ?_; (with_reducible refine (over_Of.calls k _ _ t101 _ _ t104 t107 t108 _ ?side1 ?side2 ?side3 ?side4 ?side5 A3.out).mono ?_); (case side1 => exact zg HG HB); (case side2 => exact zI (R_reads' HO103.out).2.2); (case side3 => exact (R_reads' HO103.out).2.1); (case side4 => exact zI (R_reads' HO106.out).2.2); (case side5 => exact (R_reads' HO106.out).2.1); rintro e w57 ⟨v109, rfl, ho0, hb⟩; refine ⟨_, rfl, ?_⟩; have HO110 := Am (R_lower (zn (zn ho0 HO103) HO106) (below_size (zB HB)));replace HO103 := Am (zr HO103 ho0 hb);replace HO106 := Am (zr HO106 ho0 hb);replace HB := Am (below_step (zB HB) hb); (try clear hb); (try clear ho0); (try clear A3)) | ((with_reducible refine gate_callee (f := 65) rfl ?_); refine goesL_ (some 12) rfl rfl Tryd.func65 (by kernel_rfl) rfl #[.string (⟨#[107, 49, 121, 49, 107, 50]⟩ : ByteArray)] rfl zE ?_; (with_reducible refine (epitomelaw11_spans.calls k (⟨#[107, 49, 121, 49, 107, 50]⟩ : ByteArray) t111 _ A4.out).mono ?_); rintro e w58 ⟨v112, rfl, ho0, hb⟩; refine ⟨_, rfl, ?_⟩; have HO113 := Am (R_lower (zn (zn (zn ho0 HO103) HO106) HO110) (below_size (zB HB)));replace HO103 := Am (zr HO103 ho0 hb);replace HO106 := Am (zr HO106 ho0 hb);replace HO110 := Am (zr HO110 ho0 hb);replace HB := Am (below_step (zB HB) hb); (try clear hb); (try clear ho0); (try clear A4)) | ((with_reducible refine gate_callee (f := 65) rfl ?_); refine goesL_ (some 13) rfl rfl Tryd.func65 (by kernel_rfl) rfl #[.string (⟨#[107, 49, 120, 49, 100, 49, 107, 49]⟩ : ByteArray)] rfl zE ?_; (with_reducible refine (epitomelaw11_spans.calls k (⟨#[107, 49, 120, 49, 100, 49, 107, 49]⟩ : ByteArray) t114 _ A5.out).mono ?_); rintro e w59 ⟨v115, rfl, ho0, hb⟩; refine ⟨_, rfl, ?_⟩; have HO116 := Am (R_lower (zn (zn (zn (zn ho0 HO103) HO106) HO110) HO113) (below_size (zB HB)));replace HO103 := Am (zr HO103 ho0 hb);replace HO106 := Am (zr HO106 ho0 hb);replace HO110 := Am (zr HO110 ho0 hb);replace HO113 := Am (zr HO113 ho0 hb);replace HB := Am (below_step (zB HB) hb); (try clear hb); (try clear ho0); obtain ⟨Ao60, co60, eo60⟩ := R_slice HO113.out; subst eo60; obtain ⟨Ao61, co61, eo61⟩ := R_slice HO116.out; subst eo61; (try clear A5)) | ((with_reducible refine gate_callee (f := 15) rfl ?_); refine goesL_ (some 14) rfl rfl Tryd.func15 (by kernel_rfl) rfl #[.slice Ao60 t111.length co60, .slice Ao61 t114.length co61] rfl zE ?_; (with_reducible refine (over_Of.calls k _ _ t111 _ _ t114 t117 t118 _ ?side1 ?side2 ?side3 ?side4 ?side5 A6.out).mono ?_); (case side1 => exact zg HG HB); (case side2 => exact zI (R_reads' HO113.out).2.2); (case side3 => exact (R_reads' HO113.out).2.1); (case side4 => exact zI (R_reads' HO116.out).2.2); (case side5 => exact (R_reads' HO116.out).2.1); rintro e w62 ⟨v119, rfl, ho0, hb⟩; refine ⟨_, rfl, ?_⟩; have HO120 := Am (R_lower (zn (zn (zn (zn (zn ho0 HO103) HO106) HO110) HO113) HO116) (below_size (zB HB)));replace HO103 := Am (zr HO103 ho0 hb);replace HO106 := Am (zr HO106 ho0 hb);replace HO110 := Am (zr HO110 ho0 hb);replace HO113 := Am (zr HO113 ho0 hb);replace HO116 := Am (zr HO116 ho0 hb);replace HB := Am (below_step (zB HB) hb); (try clear hb); (try clear ho0); (try clear A6)))
  go_ret
  exact ⟨zF, (zB HB)⟩
end Go.Proofs.YtkefbljogjcodaaDoor.F
end
section
namespace Go.Proofs.YtkefbljogjcodaaDoor.F
open Go.RowKit Go.Proofs.YtkefbljogjcodaaDoorW.PrintWords Go.Proofs.YtkefbljogjcodaaDoorW.PrintLast Go.Proofs.YtkefbljogjcodaaDoorW.PrintMore
attribute [local go_sem] max2_int min2_int max_two min_two max_three min_three max_four min_four cell_setCell_isSome
set_option linter.unusedVariables false
set_option linter.unusedSimpArgs false
open Kd
def epitomeref01_size.j0 : Nat → Int → Bool → Option (Int)
  | 0, _, _ => none
  | k + 1, x0, x16 => if x16 = true then (some 0) else (if x0 < 128 then (some 1) else (if x0 < 2048 then (some 2) else (if x0 < 65536 then (some 3) else (some 4))))
def epitomeref01_size.f (k : Nat) (a0 : Int) : Option (Int) := if a0 < 0 then (epitomeref01_size.j0 k a0 true) else (if a0 > 1114111 then (epitomeref01_size.j0 k a0 true) else (if a0 ≥ 55296 then (epitomeref01_size.j0 k a0 (decide (a0 ≤ 57343))) else (epitomeref01_size.j0 k a0 false)))
theorem epitomeref01_size.mono_l : ∀ k, (∀ y0 y1, LeO (epitomeref01_size.j0 k y0 y1) (epitomeref01_size.j0 (k + 1) y0 y1))
  | 0 => fun _ _ r h => by simp [epitomeref01_size.j0] at h
  | k + 1 => by
    have ih0 := epitomeref01_size.mono_l k
    · intro y0 y1
      unfold epitomeref01_size.j0
      repeat' first
      | (with_reducible exact ih0 _ _)
      | (with_reducible exact LeO.refl _)
      | (with_reducible exact LeO.none _)
      | (with_reducible refine LeO.ite ?_ ?_)
      | (with_reducible refine LeO.bind ?_ (fun _ => ?_))
      | exact ih0 _ _
      | exact LeO.none _
      | refine LeO.ite ?_ ?_
      | refine LeO.bind ?_ (fun _ => ?_)
theorem epitomeref01_size.mono : ∀ a0 k, LeO (epitomeref01_size.f k a0) (epitomeref01_size.f (k + 1) a0) := by
  intro a0 k
  have ih0 := epitomeref01_size.mono_l k
  unfold epitomeref01_size.f
  repeat' first
      | (with_reducible exact ih0 _ _)
      | (with_reducible exact LeO.refl _)
      | (with_reducible exact LeO.none _)
      | (with_reducible refine LeO.ite ?_ ?_)
      | (with_reducible refine LeO.bind ?_ (fun _ => ?_))
      | exact ih0 _ _
      | exact LeO.none _
      | refine LeO.ite ?_ ?_
      | refine LeO.bind ?_ (fun _ => ?_)
set_option maxHeartbeats 40000000 in
set_option maxRecDepth 100000 in
theorem epitomeref01_size.calls (k : Nat) (a0 : Int) (r : Int) (w : World) (h : epitomeref01_size.f k a0 = some r) :
  Calls Tryd.prog 81 #[.int .i64 a0] w fun e w' => e = .returned (.int .i64 r) ∧ Drawn0 w w' := by
 have H : (if a0 < 0 then (epitomeref01_size.j0 k a0 true) else (if a0 > 1114111 then (epitomeref01_size.j0 k a0 true) else (if a0 ≥ 55296 then (epitomeref01_size.j0 k a0 (decide (a0 ≤ 57343))) else (epitomeref01_size.j0 k a0 false)))) = some r := h
 clear h;have HC2 := Am H;clear H;go_enter Tryd.func81, Tryd.ntmps81
 go_upto_region 1 with (fail)
 go_cut [16] (fun v16 wc => ∃ (kq : Nat) (x16_1 : Bool), v16 = .bool x16_1 ∧ Aside0 (epitomeref01_size.j0 kq a0 x16_1 = some r) ∧ Aside0 (kq ≤ k) ∧ Drawn0 w wc)
 case first =>
  have H := HC2.out;clear HC2;by_cases c3 : a0 < 0
  ·rw [if_pos c3] at H;have c3b0 : decide (a0 < 0) = true := decide_eq_true c3
   clear c3;(first | rw [c3b0] | (simp only [i64_w, i32_w]; rw [c3b0]) | skip)
   have H' := Am H
   clear H;go_wp2
   go_meet
   case rel => exact ⟨_, (true), zG, H', ⟨by first | omega | exact Nat.le_refl _⟩, zD⟩
  ·rw [if_neg c3] at H;have c3b0 : decide (a0 < 0) = false := decide_eq_false c3
   clear c3;(first | rw [c3b0] | (simp only [i64_w, i32_w]; rw [c3b0]) | skip)
   by_cases c4 : a0 > 1114111
   ·rw [if_pos c4] at H;have c4b0 : decide (1114111 < a0) = true := decide_eq_true c4
    clear c4;have H' := Am H
    clear H;go_wp2
    go_meet
    case rel => exact ⟨_, (true), zG, H', ⟨by first | omega | exact Nat.le_refl _⟩, zD⟩
   ·rw [if_neg c4] at H;have c4b0 : decide (1114111 < a0) = false := decide_eq_false c4
    clear c4;by_cases c5 : a0 ≥ 55296
    ·rw [if_pos c5] at H;have c5b0 : decide (55296 ≤ a0) = true := decide_eq_true c5
     clear c5;have H' := Am H
     clear H;go_wp2
     go_meet
     case rel => exact ⟨_, (decide (a0 ≤ 57343)), zG, H', ⟨by first | omega | exact Nat.le_refl _⟩, zD⟩
    ·rw [if_neg c5] at H;have c5b0 : decide (55296 ≤ a0) = false := decide_eq_false c5
     clear c5;have H' := Am H
     clear H;go_wp2
     go_meet
     case rel => exact ⟨_, (false), zG, H', ⟨by first | omega | exact Nat.le_refl _⟩, zD⟩
 case rest =>
  clear HC2;(try clear p2);(try clear c3);(try clear c3b0);(try clear c4);(try clear c4b0);(try clear c5);(try clear c5b0);obtain ⟨kq, x16_1, rfl, HA, HJ1, ⟨mc1, rfl⟩⟩ := hcut
  cases kq with
  | zero => exact absurd HA.out (by simp [epitomeref01_size.j0])
  | succ kj1 =>
   have H := HA.out;clear HA;simp only [epitomeref01_size.j0] at H
   by_cases c6 : x16_1 = true
   ·subst c6
    have H1 : (some 0) = some r := by rw [if_pos rfl] at H; exact H
    clear H;have H := H1
    clear H1;obtain rfl := Option.some.inj H;go_wp2
    go_ret
    exact ⟨zG, zD⟩
   ·replace c6 := Bool.eq_false_iff.mpr c6
    subst c6
    have H1 : (if a0 < 128 then (some 1) else (if a0 < 2048 then (some 2) else (if a0 < 65536 then (some 3) else (some 4)))) = some r := by rw [if_neg (show ¬ (false = true) by decide)] at H; exact H
    clear H;have H := H1
    clear H1;by_cases c7 : a0 < 128
    ·rw [if_pos c7] at H;have c7b0 : decide (a0 < 128) = true := decide_eq_true c7
     clear c7;obtain rfl := Option.some.inj H;go_wp2
     go_ret
     exact ⟨zG, zD⟩
    ·rw [if_neg c7] at H;have c7b0 : decide (a0 < 128) = false := decide_eq_false c7
     clear c7;by_cases c8 : a0 < 2048
     ·rw [if_pos c8] at H;have c8b0 : decide (a0 < 2048) = true := decide_eq_true c8
      clear c8;obtain rfl := Option.some.inj H;go_wp2
      go_ret
      exact ⟨zG, zD⟩
     ·rw [if_neg c8] at H;have c8b0 : decide (a0 < 2048) = false := decide_eq_false c8
      clear c8;by_cases c9 : a0 < 65536
      ·rw [if_pos c9] at H;have c9b0 : decide (a0 < 65536) = true := decide_eq_true c9
       clear c9;obtain rfl := Option.some.inj H;go_wp2
       go_ret
       exact ⟨zG, zD⟩
      ·rw [if_neg c9] at H;have c9b0 : decide (a0 < 65536) = false := decide_eq_false c9
       clear c9;obtain rfl := Option.some.inj H;go_wp2
       go_ret
       exact ⟨zG, zD⟩
end Go.Proofs.YtkefbljogjcodaaDoor.F
end
section
namespace Go.Proofs.YtkefbljogjcodaaDoor.F
open Go.RowKit Go.Proofs.YtkefbljogjcodaaDoorW.PrintWords Go.Proofs.YtkefbljogjcodaaDoorW.PrintLast Go.Proofs.YtkefbljogjcodaaDoorW.PrintMore
attribute [local go_sem] max2_int min2_int max_two min_two max_three min_three max_four min_four cell_setCell_isSome
set_option linter.unusedVariables false
set_option linter.unusedSimpArgs false
open Kd
def epitomeref01_Of.l0 : Nat → List Int → List Int → Int → Option (ByteArray)
  | 0, _, _, _ => none
  | k + 1, x0, x3, x4 => if x4 < (x0.length : Int) then (if 0 ≤ x4 then ((epitomeref01_size.f k (wrap64 (rd x0 x4))).bind fun t105 => (if t105 = 1 then (if x3.length < 140737488355328 then (epitomeref01_Of.l0 k x0 (x3 ++ [(wrap64 (rd x0 x4)) % 256]) (wrap64 (x4 + 1))) else (none)) else (if t105 = 2 then ((some (([(wrap64 (192 + (wrap64 (Int.tdiv (wrap64 (rd x0 x4)) 64)))) % 256, (wrap64 (128 + (Int.tmod (wrap64 (rd x0 x4)) 64))) % 256] : List Int) : List Int)).bind fun y109 => (if x3.length + y109.length < 140737488355328 then (epitomeref01_Of.l0 k x0 (x3 ++ y109) (wrap64 (x4 + 1))) else (none))) else (if t105 = 3 then ((some (([(wrap64 (224 + (wrap64 (Int.tdiv (wrap64 (rd x0 x4)) 4096)))) % 256, (wrap64 (128 + (Int.tmod (wrap64 (Int.tdiv (wrap64 (rd x0 x4)) 64)) 64))) % 256, (wrap64 (128 + (Int.tmod (wrap64 (rd x0 x4)) 64))) % 256] : List Int) : List Int)).bind fun y115 => (if x3.length + y115.length < 140737488355328 then (epitomeref01_Of.l0 k x0 (x3 ++ y115) (wrap64 (x4 + 1))) else (none))) else (if t105 = 4 then ((some (([(wrap64 (240 + (wrap64 (Int.tdiv (wrap64 (rd x0 x4)) 262144)))) % 256, (wrap64 (128 + (Int.tmod (wrap64 (Int.tdiv (wrap64 (rd x0 x4)) 4096)) 64))) % 256, (wrap64 (128 + (Int.tmod (wrap64 (Int.tdiv (wrap64 (rd x0 x4)) 64)) 64))) % 256, (wrap64 (128 + (Int.tmod (wrap64 (rd x0 x4)) 64))) % 256] : List Int) : List Int)).bind fun y121 => (if x3.length + y121.length < 140737488355328 then (epitomeref01_Of.l0 k x0 (x3 ++ y121) (wrap64 (x4 + 1))) else (none))) else (epitomeref01_Of.l0 k x0 x3 (wrap64 (x4 + 1)))))))) else (none)) else (some (strOfNums x3))
def epitomeref01_Of.f (k : Nat) (l0 : List Int) : Option (ByteArray) := epitomeref01_Of.l0 k l0 (([] : List Int)) 0
theorem epitomeref01_Of.mono_l : ∀ k, (∀ y0 y1 y2, LeO (epitomeref01_Of.l0 k y0 y1 y2) (epitomeref01_Of.l0 (k + 1) y0 y1 y2))
  | 0 => fun _ _ _ r h => by simp [epitomeref01_Of.l0] at h
  | k + 1 => by
    have ih0 := epitomeref01_Of.mono_l k
    · intro y0 y1 y2
      unfold epitomeref01_Of.l0
      repeat' first
      | (with_reducible exact ih0 _ _ _)
      | (with_reducible exact epitomeref01_size.mono _ _)
      | (with_reducible exact LeO.refl _)
      | (with_reducible exact LeO.none _)
      | (with_reducible refine LeO.ite ?_ ?_)
      | (with_reducible refine LeO.bind ?_ (fun _ => ?_))
      | exact ih0 _ _ _
      | exact epitomeref01_size.mono _ _
      | exact LeO.none _
      | refine LeO.ite ?_ ?_
      | refine LeO.bind ?_ (fun _ => ?_)
theorem epitomeref01_Of.mono : ∀ a0 k, LeO (epitomeref01_Of.f k a0) (epitomeref01_Of.f (k + 1) a0) := by
  intro a0 k
  have ih0 := epitomeref01_Of.mono_l k
  unfold epitomeref01_Of.f
  repeat' first
      | (with_reducible exact ih0 _ _ _)
      | (with_reducible exact epitomeref01_size.mono _ _)
      | (with_reducible exact LeO.refl _)
      | (with_reducible exact LeO.none _)
      | (with_reducible refine LeO.ite ?_ ?_)
      | (with_reducible refine LeO.bind ?_ (fun _ => ?_))
      | exact ih0 _ _ _
      | exact epitomeref01_size.mono _ _
      | exact LeO.none _
      | refine LeO.ite ?_ ?_
      | refine LeO.bind ?_ (fun _ => ?_)
set_option maxHeartbeats 40000000 in
set_option maxRecDepth 100000 in
theorem epitomeref01_Of.calls (k : Nat) (A0 : Option Addr) (c0 : Nat) (l0 : List Int) (r : ByteArray) (w : World) (hr0 : Kd.C (Kd.int .i32) w A0 l0.length l0) (hc0 : l0.length ≤ c0) (h : epitomeref01_Of.f k l0 = some r) :
  Calls Tryd.prog 46 #[.slice A0 l0.length c0] w fun e w' => e = .returned (.string r) ∧ Below w.heap.size w w' := by
 have HR0 := Am hr0;have HC0 := Am hc0;clear hr0 hc0;have HB := Am (Below.refl w.heap.size w)
 have H : (epitomeref01_Of.l0 k l0 (([] : List Int)) 0) = some r := h
 clear h;obtain ⟨y101, hy101⟩ : ∃ y_ : List Int, y_ = (([] : List Int)) := ⟨_, rfl⟩
 replace H : (epitomeref01_Of.l0 k l0 y101 0) = some r := by first | (rw [hy101]; with_reducible exact H) | (have H2_ := (Option.bind_some _ _).symm.trans H; rw [hy101]; with_reducible exact H2_) | (have H2_ := (Option.bind_some _ _).symm.trans H; with_reducible exact H2_) | with_reducible exact H | (rw [hy101]; exact H) | exact H
 have Ny101 := Am hy101;clear hy101;have H' := Am H
 clear H;go_enter Tryd.func46, Tryd.ntmps46
 go_wp2_with (first | ((with_reducible refine gate_dst (N := 6) rfl ?_); refine R_lit (Kd.int .u8) _ 5 ?hg (N := 6) ?hd (xs := ([] : List Int)) (inner := []) (ok := fun _ => True) (okp := fun _ => True) ?hr ?hp (fun _ hk => hk) trivial (Below.refl _ _) (Nat.le_refl _) (by simp) ?_; (case hd => rfl); (case hg => rfl); (case hr => first | (go_simp; done) | (go_simp; rfl)); (case hp => exact (Reps.none _ _)); intro v102 w2 ho3 hb hg_ hnew_; clear hg_ hnew_; (first | rw [← Ny101.out] at ho3 | (simp only [Int.reduceToNat] at ho3; rw [← Ny101.out] at ho3)); have HO103 := Am (R_lower ho3 (below_size (zB HB)));replace HB := Am (below_step (zB HB) hb); clear hb ho3))
 go_loopg [3, 4] k (fun kq v3 v4 w' => ∃ (x3_1 : List Int) (x4_1 : Int), v4 = .int .i64 x4_1 ∧ Aside0 (epitomeref01_Of.l0 kq l0 x3_1 x4_1 = some r) ∧ Aside0 (kq ≤ k) ∧ Aside0 (Kd.R (Kd.int .u8) 5 w' w.heap.size (fun _ => True) v3 x3_1) ∧ Aside0 (Below w.heap.size w w'))
 case atStart => exact ⟨(y101), (0), zG, H', ⟨Nat.le_refl _⟩, ⟨(zR HO103)⟩, ⟨(zB HB)⟩⟩
 case round =>
  clear H';(try clear p2);obtain ⟨x3_1, x4_1, rfl, HA, HK1, HO_3, HB⟩ := hrel
  cases gk with
  | zero => exact absurd HA.out (by simp [epitomeref01_Of.l0])
  | succ k1 =>
   have H := HA.out;clear HA;simp only [epitomeref01_Of.l0] at H
   by_cases c4 : x4_1 < (l0.length : Int)
   ·rw [if_pos c4] at H;have c4b0 : decide (x4_1 < (l0.length : Int)) = true := decide_eq_true c4
    clear c4;by_cases c5 : 0 ≤ x4_1
    ·rw [if_pos c5] at H;have c5b0 : decide (0 ≤ x4_1) = true := decide_eq_true c5
     clear c5;replace H := Option.bind_eq_some_iff.mp H;obtain ⟨t105, A60, H⟩ := H;have A6 := Am A60;clear A60;by_cases c7 : t105 = 1
     ·rw [if_pos c7] at H;have c7b0 : (t105 == 1) = true := beq_iff_eq.mpr c7
      have c7b1 : (t105 != 1) = false := bne_eq_false_iff_eq.mpr c7
      clear c7;by_cases c8 : x3_1.length < 140737488355328
      ·rw [if_pos c8] at H;have LMc8 := Am c8;clear c8;obtain ⟨y106, hy106⟩ : ∃ y_ : List Int, y_ = (x3_1 ++ [(wrap64 (rd l0 x4_1)) % 256]) := ⟨_, rfl⟩
       replace H : (epitomeref01_Of.l0 k1 l0 y106 (wrap64 (x4_1 + 1))) = some r := by first | (rw [hy106]; with_reducible exact H) | (have H2_ := (Option.bind_some _ _).symm.trans H; rw [hy106]; with_reducible exact H2_) | (have H2_ := (Option.bind_some _ _).symm.trans H; with_reducible exact H2_) | with_reducible exact H | (rw [hy106]; exact H) | exact H
       have Ny106 := Am hy106;clear hy106;have H' := Am H
       clear H;have p104 : 0 ≤ (x4_1 : Int) := of_decide_eq_true (by assumption)
       have q104 : x4_1 < (l0.length : Int) := of_decide_eq_true (by assumption)
       obtain ⟨ad104, e104, hx104_0⟩ := Kd.at_int HR0.out x4_1 p104 q104
       cases e104
       replace hx104_0 := (HB.out.cell (World.block_lt_of_cell? w _ hx104_0)).trans hx104_0
       replace p104 := eq_true p104;replace q104 := eq_true q104;go_wp2_with (first | ((with_reducible refine gate_callee (f := 81) rfl ?_); refine goesL_ (some 19) rfl rfl Tryd.func81 (by kernel_rfl) rfl #[.int .i64 (wrap64 (rd l0 x4_1))] rfl zE ?_; (with_reducible refine (epitomeref01_size.calls k1 (wrap64 (rd l0 x4_1)) t105 _ A6.out).mono ?_); rintro e w' ⟨rfl, ⟨nd, rfl⟩⟩; refine ⟨_, rfl, ?_⟩) | ((with_reducible refine gate_builtin (b := .append) (xs := #[.tmp 22, .tmp 25]) rfl ?_); at_builtin; refine R_append (Kd.int .u8) (w0 := w) w.heap.size rfl (.tmp 22) (.tmp 25) 98 5 (.int .u8 0) 1 rfl Tryd.underlying98 info5 rfl (by decide) (by omega) u3 x3_1 ((wrap64 (rd l0 x4_1)) % 256) [.int .u8 ((wrap64 (rd l0 x4_1)) % 256)] (fun _ => True) (fun _ => False) rfl rfl ?aP (fun _ hk => hk.elim) ?aF ?aO ?aB ?aS ?aL ?_; (case aP => exact rfl); (case aB => exact (zB HB)); (case aF => exact (fun _ _ => trivial)); (case aO => exact (zR HO_3)); (case aS => exact (below_size (zB HB))); (case aL => have := LMc8.out; omega); intro v107 w9 ho hb hg hat; rw [← Ny106.out] at ho; replace HB := Am (hb);have HO108 := Am (ho);clear HO_3; clear ho hb hg hat))
       go_roundg k1
       case measure => have := HK1.out; omega
       case rel => exact ⟨(y106), (wrap64 (x4_1 + 1)), zG, H', ⟨by have := HK1.out; omega⟩, ⟨(zR HO108)⟩, ⟨(zB HB)⟩⟩
      ·rw [if_neg c8] at H;exact absurd H (by simp)
     ·rw [if_neg c7] at H;have c7b0 : (t105 == 1) = false := beq_eq_false_iff_ne.mpr c7
      have c7b1 : (t105 != 1) = true := bne_iff_ne.mpr c7
      by_cases c10 : t105 = 2
      ·rw [if_pos c10] at H;have c10b0 : (t105 == 2) = true := beq_iff_eq.mpr c10
       have c10b1 : (t105 != 2) = false := bne_eq_false_iff_eq.mpr c10
       clear c10;obtain ⟨y109, hy109⟩ : ∃ y_ : List Int, y_ = (([(wrap64 (192 + (wrap64 (Int.tdiv (wrap64 (rd l0 x4_1)) 64)))) % 256, (wrap64 (128 + (Int.tmod (wrap64 (rd l0 x4_1)) 64))) % 256] : List Int)) := ⟨_, rfl⟩
       replace H : (if x3_1.length + y109.length < 140737488355328 then (epitomeref01_Of.l0 k1 l0 (x3_1 ++ y109) (wrap64 (x4_1 + 1))) else (none)) = some r := by first | (rw [hy109]; with_reducible exact H) | (have H2_ := (Option.bind_some _ _).symm.trans H; rw [hy109]; with_reducible exact H2_) | (have H2_ := (Option.bind_some _ _).symm.trans H; with_reducible exact H2_) | with_reducible exact H | (rw [hy109]; exact H) | exact H
       have Ny109 := Am hy109;clear hy109;by_cases c11 : x3_1.length + y109.length < 140737488355328
       ·rw [if_pos c11] at H;have LMc11 := Am c11;clear c11;obtain ⟨y112, hy112⟩ : ∃ y_ : List Int, y_ = (x3_1 ++ y109) := ⟨_, rfl⟩
        replace H : (epitomeref01_Of.l0 k1 l0 y112 (wrap64 (x4_1 + 1))) = some r := by first | (rw [hy112]; with_reducible exact H) | (have H2_ := (Option.bind_some _ _).symm.trans H; rw [hy112]; with_reducible exact H2_) | (have H2_ := (Option.bind_some _ _).symm.trans H; with_reducible exact H2_) | with_reducible exact H | (rw [hy112]; exact H) | exact H
        have Ny112 := Am hy112;clear hy112;have H' := Am H
        clear H;have p104 : 0 ≤ (x4_1 : Int) := of_decide_eq_true (by assumption)
        have q104 : x4_1 < (l0.length : Int) := of_decide_eq_true (by assumption)
        obtain ⟨ad104, e104, hx104_0⟩ := Kd.at_int HR0.out x4_1 p104 q104
        cases e104
        replace hx104_0 := (HB.out.cell (World.block_lt_of_cell? w _ hx104_0)).trans hx104_0
        replace p104 := eq_true p104;replace q104 := eq_true q104;go_wp2_with (first | ((with_reducible refine gate_callee (f := 81) rfl ?_); refine goesL_ (some 19) rfl rfl Tryd.func81 (by kernel_rfl) rfl #[.int .i64 (wrap64 (rd l0 x4_1))] rfl zE ?_; (with_reducible refine (epitomeref01_size.calls k1 (wrap64 (rd l0 x4_1)) t105 _ A6.out).mono ?_); rintro e w' ⟨rfl, ⟨nd, rfl⟩⟩; refine ⟨_, rfl, ?_⟩) | ((with_reducible refine gate_dst (N := 38) rfl ?_); refine R_lit (Kd.int .u8) _ 5 ?hg (N := 38) ?hd (xs := ([(wrap64 (192 + (wrap64 (Int.tdiv (wrap64 (rd l0 x4_1)) 64)))) % 256, (wrap64 (128 + (Int.tmod (wrap64 (rd l0 x4_1)) 64))) % 256] : List Int)) (inner := [.int .u8 ((wrap64 (192 + (wrap64 (Int.tdiv (wrap64 (rd l0 x4_1)) 64)))) % 256), .int .u8 ((wrap64 (128 + (Int.tmod (wrap64 (rd l0 x4_1)) 64))) % 256)]) (ok := fun _ => True) (okp := fun _ => True) ?hr ?hp (fun _ hk => hk) trivial (Below.refl _ _) (Nat.le_refl _) (by simp) ?_; (case hd => rfl); (case hg => rfl); (case hr => first | (go_simp; done) | (go_simp; rfl)); (case hp => exact (Reps.one (show Kd.M (Kd.int .u8) _ _ _ ((wrap64 (192 + (wrap64 (Int.tdiv (wrap64 (rd l0 x4_1)) 64)))) % 256) [.int .u8 ((wrap64 (192 + (wrap64 (Int.tdiv (wrap64 (rd l0 x4_1)) 64)))) % 256)] from rfl) (Reps.one (show Kd.M (Kd.int .u8) _ _ _ ((wrap64 (128 + (Int.tmod (wrap64 (rd l0 x4_1)) 64))) % 256) [.int .u8 ((wrap64 (128 + (Int.tmod (wrap64 (rd l0 x4_1)) 64))) % 256)] from rfl) (Reps.none _ _)))); intro v110 w12 ho13 hb hg_ hnew_; clear hg_ hnew_; (first | rw [← Ny109.out] at ho13 | (simp only [Int.reduceToNat] at ho13; rw [← Ny109.out] at ho13)); have HO111 := Am (R_lower (zn ho13 HO_3) (below_size (zB HB)));replace HO_3 := Am (zr HO_3 ho13 hb);replace HB := Am (below_step (zB HB) hb); clear hb ho13; obtain ⟨Ao15, co15, eo15⟩ := R_slice HO111.out; subst eo15) | ((with_reducible refine gate_builtin (b := .append) (xs := #[.tmp 29, .tmp 38]) rfl ?_); at_builtin; refine R_append_rows (Kd.int .u8) (w0 := w) w.heap.size rfl (.tmp 29) (.tmp 38) 98 5 (.int .u8 0) 1 rfl Tryd.underlying98 info5 rfl (by decide) (by omega) u3 x3_1 y109 _ _ _ (fun k_ => some k_ ≠ (.slice Ao15 y109.length co15 : Value).ownBlock) (fun _ => False) rfl rfl ?aO ?aR (fun _ _ h => h) (fun _ h => h.elim) ?aF ?aB ?aS ?aL ?_; (case aR => exact zI (R_reads' HO111.out).2.2); (case aB => exact (zB HB)); (case aF => exact (fun k_ hk => Kd.fresh' (R_lt (zR HO111)) k_ hk)); (case aO => exact (by (with_reducible repeat (first | apply R_alloc | apply R_drewN | apply R_drew)); exact R_mono HO_3.out (fun _ hk => hk.2))); (case aS => exact (below_size (zB HB))); (case aL => have := LMc11.out; omega); intro v113 w14 ho hb hg hat; rw [← Ny112.out] at ho; replace HO111 := Am (R_after (ok := (fun _ => True)) (zR HO111) hg hat);replace HB := Am (hb);have HO114 := Am (ho);clear HO_3; clear ho hb hg hat))
        go_roundg k1
        case measure => have := HK1.out; omega
        case rel => exact ⟨(y112), (wrap64 (x4_1 + 1)), zG, H', ⟨by have := HK1.out; omega⟩, ⟨by (with_reducible repeat (first | apply R_alloc | apply R_drewN | apply R_drew)); exact R_mono HO114.out (fun _ hk => trivial)⟩, ⟨(zB HB)⟩⟩
       ·rw [if_neg c11] at H;exact absurd H (by simp)
      ·rw [if_neg c10] at H;have c10b0 : (t105 == 2) = false := beq_eq_false_iff_ne.mpr c10
       have c10b1 : (t105 != 2) = true := bne_iff_ne.mpr c10
       by_cases c16 : t105 = 3
       ·rw [if_pos c16] at H;have c16b0 : (t105 == 3) = true := beq_iff_eq.mpr c16
        have c16b1 : (t105 != 3) = false := bne_eq_false_iff_eq.mpr c16
        clear c16;obtain ⟨y115, hy115⟩ : ∃ y_ : List Int, y_ = (([(wrap64 (224 + (wrap64 (Int.tdiv (wrap64 (rd l0 x4_1)) 4096)))) % 256, (wrap64 (128 + (Int.tmod (wrap64 (Int.tdiv (wrap64 (rd l0 x4_1)) 64)) 64))) % 256, (wrap64 (128 + (Int.tmod (wrap64 (rd l0 x4_1)) 64))) % 256] : List Int)) := ⟨_, rfl⟩
        replace H : (if x3_1.length + y115.length < 140737488355328 then (epitomeref01_Of.l0 k1 l0 (x3_1 ++ y115) (wrap64 (x4_1 + 1))) else (none)) = some r := by first | (rw [hy115]; with_reducible exact H) | (have H2_ := (Option.bind_some _ _).symm.trans H; rw [hy115]; with_reducible exact H2_) | (have H2_ := (Option.bind_some _ _).symm.trans H; with_reducible exact H2_) | with_reducible exact H | (rw [hy115]; exact H) | exact H
        have Ny115 := Am hy115;clear hy115;by_cases c17 : x3_1.length + y115.length < 140737488355328
        ·rw [if_pos c17] at H;have LMc17 := Am c17;clear c17;obtain ⟨y118, hy118⟩ : ∃ y_ : List Int, y_ = (x3_1 ++ y115) := ⟨_, rfl⟩
         replace H : (epitomeref01_Of.l0 k1 l0 y118 (wrap64 (x4_1 + 1))) = some r := by first | (rw [hy118]; with_reducible exact H) | (have H2_ := (Option.bind_some _ _).symm.trans H; rw [hy118]; with_reducible exact H2_) | (have H2_ := (Option.bind_some _ _).symm.trans H; with_reducible exact H2_) | with_reducible exact H | (rw [hy118]; exact H) | exact H
         have Ny118 := Am hy118;clear hy118;have H' := Am H
         clear H;have p104 : 0 ≤ (x4_1 : Int) := of_decide_eq_true (by assumption)
         have q104 : x4_1 < (l0.length : Int) := of_decide_eq_true (by assumption)
         obtain ⟨ad104, e104, hx104_0⟩ := Kd.at_int HR0.out x4_1 p104 q104
         cases e104
         replace hx104_0 := (HB.out.cell (World.block_lt_of_cell? w _ hx104_0)).trans hx104_0
         replace p104 := eq_true p104;replace q104 := eq_true q104;go_wp2_with (first | ((with_reducible refine gate_callee (f := 81) rfl ?_); refine goesL_ (some 19) rfl rfl Tryd.func81 (by kernel_rfl) rfl #[.int .i64 (wrap64 (rd l0 x4_1))] rfl zE ?_; (with_reducible refine (epitomeref01_size.calls k1 (wrap64 (rd l0 x4_1)) t105 _ A6.out).mono ?_); rintro e w' ⟨rfl, ⟨nd, rfl⟩⟩; refine ⟨_, rfl, ?_⟩) | ((with_reducible refine gate_dst (N := 56) rfl ?_); refine R_lit (Kd.int .u8) _ 5 ?hg (N := 56) ?hd (xs := ([(wrap64 (224 + (wrap64 (Int.tdiv (wrap64 (rd l0 x4_1)) 4096)))) % 256, (wrap64 (128 + (Int.tmod (wrap64 (Int.tdiv (wrap64 (rd l0 x4_1)) 64)) 64))) % 256, (wrap64 (128 + (Int.tmod (wrap64 (rd l0 x4_1)) 64))) % 256] : List Int)) (inner := [.int .u8 ((wrap64 (224 + (wrap64 (Int.tdiv (wrap64 (rd l0 x4_1)) 4096)))) % 256), .int .u8 ((wrap64 (128 + (Int.tmod (wrap64 (Int.tdiv (wrap64 (rd l0 x4_1)) 64)) 64))) % 256), .int .u8 ((wrap64 (128 + (Int.tmod (wrap64 (rd l0 x4_1)) 64))) % 256)]) (ok := fun _ => True) (okp := fun _ => True) ?hr ?hp (fun _ hk => hk) trivial (Below.refl _ _) (Nat.le_refl _) (by simp) ?_; (case hd => rfl); (case hg => rfl); (case hr => first | (go_simp; done) | (go_simp; rfl)); (case hp => exact (Reps.one (show Kd.M (Kd.int .u8) _ _ _ ((wrap64 (224 + (wrap64 (Int.tdiv (wrap64 (rd l0 x4_1)) 4096)))) % 256) [.int .u8 ((wrap64 (224 + (wrap64 (Int.tdiv (wrap64 (rd l0 x4_1)) 4096)))) % 256)] from rfl) (Reps.one (show Kd.M (Kd.int .u8) _ _ _ ((wrap64 (128 + (Int.tmod (wrap64 (Int.tdiv (wrap64 (rd l0 x4_1)) 64)) 64))) % 256) [.int .u8 ((wrap64 (128 + (Int.tmod (wrap64 (Int.tdiv (wrap64 (rd l0 x4_1)) 64)) 64))) % 256)] from rfl) (Reps.one (show Kd.M (Kd.int .u8) _ _ _ ((wrap64 (128 + (Int.tmod (wrap64 (rd l0 x4_1)) 64))) % 256) [.int .u8 ((wrap64 (128 + (Int.tmod (wrap64 (rd l0 x4_1)) 64))) % 256)] from rfl) (Reps.none _ _))))); intro v116 w18 ho19 hb hg_ hnew_; clear hg_ hnew_; (first | rw [← Ny115.out] at ho19 | (simp only [Int.reduceToNat] at ho19; rw [← Ny115.out] at ho19)); have HO117 := Am (R_lower (zn ho19 HO_3) (below_size (zB HB)));replace HO_3 := Am (zr HO_3 ho19 hb);replace HB := Am (below_step (zB HB) hb); clear hb ho19; obtain ⟨Ao21, co21, eo21⟩ := R_slice HO117.out; subst eo21) | ((with_reducible refine gate_builtin (b := .append) (xs := #[.tmp 42, .tmp 56]) rfl ?_); at_builtin; refine R_append_rows (Kd.int .u8) (w0 := w) w.heap.size rfl (.tmp 42) (.tmp 56) 98 5 (.int .u8 0) 1 rfl Tryd.underlying98 info5 rfl (by decide) (by omega) u3 x3_1 y115 _ _ _ (fun k_ => some k_ ≠ (.slice Ao21 y115.length co21 : Value).ownBlock) (fun _ => False) rfl rfl ?aO ?aR (fun _ _ h => h) (fun _ h => h.elim) ?aF ?aB ?aS ?aL ?_; (case aR => exact zI (R_reads' HO117.out).2.2); (case aB => exact (zB HB)); (case aF => exact (fun k_ hk => Kd.fresh' (R_lt (zR HO117)) k_ hk)); (case aO => exact (by (with_reducible repeat (first | apply R_alloc | apply R_drewN | apply R_drew)); exact R_mono HO_3.out (fun _ hk => hk.2))); (case aS => exact (below_size (zB HB))); (case aL => have := LMc17.out; omega); intro v119 w20 ho hb hg hat; rw [← Ny118.out] at ho; replace HO117 := Am (R_after (ok := (fun _ => True)) (zR HO117) hg hat);replace HB := Am (hb);have HO120 := Am (ho);clear HO_3; clear ho hb hg hat))
         go_roundg k1
         case measure => have := HK1.out; omega
         case rel => exact ⟨(y118), (wrap64 (x4_1 + 1)), zG, H', ⟨by have := HK1.out; omega⟩, ⟨by (with_reducible repeat (first | apply R_alloc | apply R_drewN | apply R_drew)); exact R_mono HO120.out (fun _ hk => trivial)⟩, ⟨(zB HB)⟩⟩
        ·rw [if_neg c17] at H;exact absurd H (by simp)
       ·rw [if_neg c16] at H;have c16b0 : (t105 == 3) = false := beq_eq_false_iff_ne.mpr c16
        have c16b1 : (t105 != 3) = true := bne_iff_ne.mpr c16
        by_cases c22 : t105 = 4
        ·rw [if_pos c22] at H;have c22b0 : (t105 == 4) = true := beq_iff_eq.mpr c22
         have c22b1 : (t105 != 4) = false := bne_eq_false_iff_eq.mpr c22
         clear c22;obtain ⟨y121, hy121⟩ : ∃ y_ : List Int, y_ = (([(wrap64 (240 + (wrap64 (Int.tdiv (wrap64 (rd l0 x4_1)) 262144)))) % 256, (wrap64 (128 + (Int.tmod (wrap64 (Int.tdiv (wrap64 (rd l0 x4_1)) 4096)) 64))) % 256, (wrap64 (128 + (Int.tmod (wrap64 (Int.tdiv (wrap64 (rd l0 x4_1)) 64)) 64))) % 256, (wrap64 (128 + (Int.tmod (wrap64 (rd l0 x4_1)) 64))) % 256] : List Int)) := ⟨_, rfl⟩
         replace H : (if x3_1.length + y121.length < 140737488355328 then (epitomeref01_Of.l0 k1 l0 (x3_1 ++ y121) (wrap64 (x4_1 + 1))) else (none)) = some r := by first | (rw [hy121]; with_reducible exact H) | (have H2_ := (Option.bind_some _ _).symm.trans H; rw [hy121]; with_reducible exact H2_) | (have H2_ := (Option.bind_some _ _).symm.trans H; with_reducible exact H2_) | with_reducible exact H | (rw [hy121]; exact H) | exact H
         have Ny121 := Am hy121;clear hy121;by_cases c23 : x3_1.length + y121.length < 140737488355328
         ·rw [if_pos c23] at H;have LMc23 := Am c23;clear c23;obtain ⟨y124, hy124⟩ : ∃ y_ : List Int, y_ = (x3_1 ++ y121) := ⟨_, rfl⟩
          replace H : (epitomeref01_Of.l0 k1 l0 y124 (wrap64 (x4_1 + 1))) = some r := by first | (rw [hy124]; with_reducible exact H) | (have H2_ := (Option.bind_some _ _).symm.trans H; rw [hy124]; with_reducible exact H2_) | (have H2_ := (Option.bind_some _ _).symm.trans H; with_reducible exact H2_) | with_reducible exact H | (rw [hy124]; exact H) | exact H
          have Ny124 := Am hy124;clear hy124;have H' := Am H
          clear H;have p104 : 0 ≤ (x4_1 : Int) := of_decide_eq_true (by assumption)
          have q104 : x4_1 < (l0.length : Int) := of_decide_eq_true (by assumption)
          obtain ⟨ad104, e104, hx104_0⟩ := Kd.at_int HR0.out x4_1 p104 q104
          cases e104
          replace hx104_0 := (HB.out.cell (World.block_lt_of_cell? w _ hx104_0)).trans hx104_0
          replace p104 := eq_true p104;replace q104 := eq_true q104;go_wp2_with (first | ((with_reducible refine gate_callee (f := 81) rfl ?_); refine goesL_ (some 19) rfl rfl Tryd.func81 (by kernel_rfl) rfl #[.int .i64 (wrap64 (rd l0 x4_1))] rfl zE ?_; (with_reducible refine (epitomeref01_size.calls k1 (wrap64 (rd l0 x4_1)) t105 _ A6.out).mono ?_); rintro e w' ⟨rfl, ⟨nd, rfl⟩⟩; refine ⟨_, rfl, ?_⟩) | ((with_reducible refine gate_dst (N := 79) rfl ?_); refine R_lit (Kd.int .u8) _ 5 ?hg (N := 79) ?hd (xs := ([(wrap64 (240 + (wrap64 (Int.tdiv (wrap64 (rd l0 x4_1)) 262144)))) % 256, (wrap64 (128 + (Int.tmod (wrap64 (Int.tdiv (wrap64 (rd l0 x4_1)) 4096)) 64))) % 256, (wrap64 (128 + (Int.tmod (wrap64 (Int.tdiv (wrap64 (rd l0 x4_1)) 64)) 64))) % 256, (wrap64 (128 + (Int.tmod (wrap64 (rd l0 x4_1)) 64))) % 256] : List Int)) (inner := [.int .u8 ((wrap64 (240 + (wrap64 (Int.tdiv (wrap64 (rd l0 x4_1)) 262144)))) % 256), .int .u8 ((wrap64 (128 + (Int.tmod (wrap64 (Int.tdiv (wrap64 (rd l0 x4_1)) 4096)) 64))) % 256), .int .u8 ((wrap64 (128 + (Int.tmod (wrap64 (Int.tdiv (wrap64 (rd l0 x4_1)) 64)) 64))) % 256), .int .u8 ((wrap64 (128 + (Int.tmod (wrap64 (rd l0 x4_1)) 64))) % 256)]) (ok := fun _ => True) (okp := fun _ => True) ?hr ?hp (fun _ hk => hk) trivial (Below.refl _ _) (Nat.le_refl _) (by simp) ?_; (case hd => rfl); (case hg => rfl); (case hr => first | (go_simp; done) | (go_simp; rfl)); (case hp => exact (Reps.one (show Kd.M (Kd.int .u8) _ _ _ ((wrap64 (240 + (wrap64 (Int.tdiv (wrap64 (rd l0 x4_1)) 262144)))) % 256) [.int .u8 ((wrap64 (240 + (wrap64 (Int.tdiv (wrap64 (rd l0 x4_1)) 262144)))) % 256)] from rfl) (Reps.one (show Kd.M (Kd.int .u8) _ _ _ ((wrap64 (128 + (Int.tmod (wrap64 (Int.tdiv (wrap64 (rd l0 x4_1)) 4096)) 64))) % 256) [.int .u8 ((wrap64 (128 + (Int.tmod (wrap64 (Int.tdiv (wrap64 (rd l0 x4_1)) 4096)) 64))) % 256)] from rfl) (Reps.one (show Kd.M (Kd.int .u8) _ _ _ ((wrap64 (128 + (Int.tmod (wrap64 (Int.tdiv (wrap64 (rd l0 x4_1)) 64)) 64))) % 256) [.int .u8 ((wrap64 (128 + (Int.tmod (wrap64 (Int.tdiv (wrap64 (rd l0 x4_1)) 64)) 64))) % 256)] from rfl) (Reps.one (show Kd.M (Kd.int .u8) _ _ _ ((wrap64 (128 + (Int.tmod (wrap64 (rd l0 x4_1)) 64))) % 256) [.int .u8 ((wrap64 (128 + (Int.tmod (wrap64 (rd l0 x4_1)) 64))) % 256)] from rfl) (Reps.none _ _)))))); intro v122 w24 ho25 hb hg_ hnew_; clear hg_ hnew_; (first | rw [← Ny121.out] at ho25 | (simp only [Int.reduceToNat] at ho25; rw [← Ny121.out] at ho25)); have HO123 := Am (R_lower (zn ho25 HO_3) (below_size (zB HB)));replace HO_3 := Am (zr HO_3 ho25 hb);replace HB := Am (below_step (zB HB) hb); clear hb ho25; obtain ⟨Ao27, co27, eo27⟩ := R_slice HO123.out; subst eo27) | ((with_reducible refine gate_builtin (b := .append) (xs := #[.tmp 60, .tmp 79]) rfl ?_); at_builtin; refine R_append_rows (Kd.int .u8) (w0 := w) w.heap.size rfl (.tmp 60) (.tmp 79) 98 5 (.int .u8 0) 1 rfl Tryd.underlying98 info5 rfl (by decide) (by omega) u3 x3_1 y121 _ _ _ (fun k_ => some k_ ≠ (.slice Ao27 y121.length co27 : Value).ownBlock) (fun _ => False) rfl rfl ?aO ?aR (fun _ _ h => h) (fun _ h => h.elim) ?aF ?aB ?aS ?aL ?_; (case aR => exact zI (R_reads' HO123.out).2.2); (case aB => exact (zB HB)); (case aF => exact (fun k_ hk => Kd.fresh' (R_lt (zR HO123)) k_ hk)); (case aO => exact (by (with_reducible repeat (first | apply R_alloc | apply R_drewN | apply R_drew)); exact R_mono HO_3.out (fun _ hk => hk.2))); (case aS => exact (below_size (zB HB))); (case aL => have := LMc23.out; omega); intro v125 w26 ho hb hg hat; rw [← Ny124.out] at ho; replace HO123 := Am (R_after (ok := (fun _ => True)) (zR HO123) hg hat);replace HB := Am (hb);have HO126 := Am (ho);clear HO_3; clear ho hb hg hat))
          go_roundg k1
          case measure => have := HK1.out; omega
          case rel => exact ⟨(y124), (wrap64 (x4_1 + 1)), zG, H', ⟨by have := HK1.out; omega⟩, ⟨by (with_reducible repeat (first | apply R_alloc | apply R_drewN | apply R_drew)); exact R_mono HO126.out (fun _ hk => trivial)⟩, ⟨(zB HB)⟩⟩
         ·rw [if_neg c23] at H;exact absurd H (by simp)
        ·rw [if_neg c22] at H;have c22b0 : (t105 == 4) = false := beq_eq_false_iff_ne.mpr c22
         have c22b1 : (t105 != 4) = true := bne_iff_ne.mpr c22
         have H' := Am H
         clear H;have p104 : 0 ≤ (x4_1 : Int) := of_decide_eq_true (by assumption)
         have q104 : x4_1 < (l0.length : Int) := of_decide_eq_true (by assumption)
         obtain ⟨ad104, e104, hx104_0⟩ := Kd.at_int HR0.out x4_1 p104 q104
         cases e104
         replace hx104_0 := (HB.out.cell (World.block_lt_of_cell? w _ hx104_0)).trans hx104_0
         replace p104 := eq_true p104;replace q104 := eq_true q104;go_wp2_with (first | ((with_reducible refine gate_callee (f := 81) rfl ?_); refine goesL_ (some 19) rfl rfl Tryd.func81 (by kernel_rfl) rfl #[.int .i64 (wrap64 (rd l0 x4_1))] rfl zE ?_; (with_reducible refine (epitomeref01_size.calls k1 (wrap64 (rd l0 x4_1)) t105 _ A6.out).mono ?_); rintro e w' ⟨rfl, ⟨nd, rfl⟩⟩; refine ⟨_, rfl, ?_⟩))
         go_roundg k1
         case measure => have := HK1.out; omega
         case rel => exact ⟨(x3_1), (wrap64 (x4_1 + 1)), zG, H', ⟨by have := HK1.out; omega⟩, ⟨(zR HO_3)⟩, ⟨(zB HB)⟩⟩
    ·rw [if_neg c5] at H;exact absurd H (by simp)
   ·rw [if_neg c4] at H;have c4b0 : decide (x4_1 < (l0.length : Int)) = false := decide_eq_false c4
    clear c4;obtain rfl := Option.some.inj H;have hcv28 := own_string (P := Tryd.prog) Tryd.underlying98 Tryd.underlying5 Tryd.underlying9 (Kd.own_of_R HO_3.out)
    go_wp2
    go_ret
    exact ⟨zF, (zB HB)⟩
end Go.Proofs.YtkefbljogjcodaaDoor.F
end
section
namespace Go.Proofs.YtkefbljogjcodaaDoor.F
open Go.RowKit Go.Proofs.YtkefbljogjcodaaDoorW.PrintWords Go.Proofs.YtkefbljogjcodaaDoorW.PrintLast Go.Proofs.YtkefbljogjcodaaDoorW.PrintMore
attribute [local go_sem] max2_int min2_int max_two min_two max_three min_three max_four min_four cell_setCell_isSome
set_option linter.unusedVariables false
set_option linter.unusedSimpArgs false
open Kd
def epitomeref01_Fit.l0 : Nat → ByteArray → List Int → Int → Int → Int → Int → Int → Int → Int → Int → Int → Option (ByteArray)
  | 0, _, _, _, _, _, _, _, _, _, _, _ => none
  | k + 1, x0, x4, x5, x102000, x102001, x102002, x102003, x102004, x102005, x102006, x102007 => if x5 < (x0.size : Int) then (if 0 ≤ x5 then ((fit_rune.f x102000 x102001 x102002 x102003 x102004 x102005 x102006 x102007 (Int.tmod (bt x0 x5) 8)).bind fun t105 => (if x4.length < 35184372088832 then (epitomeref01_Fit.l0 k x0 (x4 ++ [t105]) (wrap64 (x5 + 1)) x102000 x102001 x102002 x102003 x102004 x102005 x102006 x102007) else (none))) else (none)) else ((epitomeref01_Of.f k x4).bind fun t109 => (some t109))
def epitomeref01_Fit.f (k : Nat) (a0 : ByteArray) : Option (ByteArray) := epitomeref01_Fit.l0 k a0 (([] : List Int)) 0 97 98 99 120 121 233 8364 128512
theorem epitomeref01_Fit.mono_l : ∀ k, (∀ y0 y1 y2 y3 y4 y5 y6 y7 y8 y9 y10, LeO (epitomeref01_Fit.l0 k y0 y1 y2 y3 y4 y5 y6 y7 y8 y9 y10) (epitomeref01_Fit.l0 (k + 1) y0 y1 y2 y3 y4 y5 y6 y7 y8 y9 y10))
  | 0 => fun _ _ _ _ _ _ _ _ _ _ _ r h => by simp [epitomeref01_Fit.l0] at h
  | k + 1 => by
    have ih0 := epitomeref01_Fit.mono_l k
    · intro y0 y1 y2 y3 y4 y5 y6 y7 y8 y9 y10
      unfold epitomeref01_Fit.l0
      repeat' first
      | (with_reducible exact ih0 _ _ _ _ _ _ _ _ _ _ _)
      | (with_reducible exact epitomeref01_Of.mono _ _)
      | (with_reducible exact LeO.refl _)
      | (with_reducible exact LeO.none _)
      | (with_reducible refine LeO.ite ?_ ?_)
      | (with_reducible refine LeO.bind ?_ (fun _ => ?_))
      | exact ih0 _ _ _ _ _ _ _ _ _ _ _
      | exact epitomeref01_Of.mono _ _
      | exact LeO.none _
      | refine LeO.ite ?_ ?_
      | refine LeO.bind ?_ (fun _ => ?_)
theorem epitomeref01_Fit.mono : ∀ a0 k, LeO (epitomeref01_Fit.f k a0) (epitomeref01_Fit.f (k + 1) a0) := by
  intro a0 k
  have ih0 := epitomeref01_Fit.mono_l k
  unfold epitomeref01_Fit.f
  repeat' first
      | (with_reducible exact ih0 _ _ _ _ _ _ _ _ _ _ _)
      | (with_reducible exact epitomeref01_Of.mono _ _)
      | (with_reducible exact LeO.refl _)
      | (with_reducible exact LeO.none _)
      | (with_reducible refine LeO.ite ?_ ?_)
      | (with_reducible refine LeO.bind ?_ (fun _ => ?_))
      | exact ih0 _ _ _ _ _ _ _ _ _ _ _
      | exact epitomeref01_Of.mono _ _
      | exact LeO.none _
      | refine LeO.ite ?_ ?_
      | refine LeO.bind ?_ (fun _ => ?_)
set_option maxHeartbeats 40000000 in
set_option maxRecDepth 100000 in
theorem epitomeref01_Fit.calls (k : Nat) (a0 : ByteArray) (r : ByteArray) (w : World) (h : epitomeref01_Fit.f k a0 = some r) :
  Calls Tryd.prog 14 #[.string a0] w fun e w' => e = .returned (.string r) ∧ Below w.heap.size w w' := by
 have hu62 := Tryd.underlying62
 have HB := Am (Below.refl w.heap.size w)
 have H : (epitomeref01_Fit.l0 k a0 (([] : List Int)) 0 97 98 99 120 121 233 8364 128512) = some r := h
 clear h;obtain ⟨y102, hy102⟩ : ∃ y_ : List Int, y_ = (([] : List Int)) := ⟨_, rfl⟩
 replace H : (epitomeref01_Fit.l0 k a0 y102 0 97 98 99 120 121 233 8364 128512) = some r := by first | (rw [hy102]; with_reducible exact H) | (have H2_ := (Option.bind_some _ _).symm.trans H; rw [hy102]; with_reducible exact H2_) | (have H2_ := (Option.bind_some _ _).symm.trans H; with_reducible exact H2_) | with_reducible exact H | (rw [hy102]; exact H) | exact H
 have Ny102 := Am hy102;clear hy102;have H' := Am H
 clear H;go_enter Tryd.func14, Tryd.ntmps14
 go_wp2_with (first | ((with_reducible refine gate_dst (N := 3) rfl ?_); refine box_event ?hg (N := 3) ?hd (cs := #[.int .i32 0, .int .i32 0, .int .i32 0, .int .i32 0, .int .i32 0, .int .i32 0, .int .i32 0, .int .i32 0]) (t := 62) ?hr ?_; (case hd => rfl); (case hg => rfl); (case hr => first | (go_simp; done) | (go_simp; rfl)); intro gb101 hg w2 hbox hb; have BK101 := Am (hbox);have GW101 := Am (zO (w := w) HB hg);have GE101 := Am (zO (w := w) HB hg);replace HB := Am (below_step (zB HB) hb); clear hb hbox hg; have hcz3_0 : w2.cell? ⟨gb101, 0, none⟩ = some (.int .i32 0) := (blk_cell BK101.out 0).trans rfl; have hcz3_1 : w2.cell? ⟨gb101, 1, none⟩ = some (.int .i32 0) := (blk_cell BK101.out 1).trans rfl; have hcz3_2 : w2.cell? ⟨gb101, 2, none⟩ = some (.int .i32 0) := (blk_cell BK101.out 2).trans rfl; have hcz3_3 : w2.cell? ⟨gb101, 3, none⟩ = some (.int .i32 0) := (blk_cell BK101.out 3).trans rfl; have hcz3_4 : w2.cell? ⟨gb101, 4, none⟩ = some (.int .i32 0) := (blk_cell BK101.out 4).trans rfl; have hcz3_5 : w2.cell? ⟨gb101, 5, none⟩ = some (.int .i32 0) := (blk_cell BK101.out 5).trans rfl; have hcz3_6 : w2.cell? ⟨gb101, 6, none⟩ = some (.int .i32 0) := (blk_cell BK101.out 6).trans rfl; have hcz3_7 : w2.cell? ⟨gb101, 7, none⟩ = some (.int .i32 0) := (blk_cell BK101.out 7).trans rfl; have hfz3_0 := blk_frozen BK101.out 0; have hfz3_1 := blk_frozen BK101.out 1; have hfz3_2 := blk_frozen BK101.out 2; have hfz3_3 := blk_frozen BK101.out 3; have hfz3_4 := blk_frozen BK101.out 4; have hfz3_5 := blk_frozen BK101.out 5; have hfz3_6 := blk_frozen BK101.out 6; have hfz3_7 := blk_frozen BK101.out 7) | ((with_reducible refine gate_dst (N := 7) rfl ?_); refine R_lit (Kd.int .i32) _ 21 ?hg (N := 7) ?hd (xs := ([] : List Int)) (inner := []) (ok := fun _ => True) (okp := fun _ => True) ?hr ?hp (fun _ hk => hk) trivial (Below.refl _ _) (Nat.le_refl _) (by simp) ?_; (case hd => rfl); (case hg => rfl); (case hr => first | (go_simp; done) | (go_simp; rfl)); (case hp => exact (Reps.none _ _)); intro v103 w4 ho5 hb hg_ hnew_; clear hg_ hnew_; (first | rw [← Ny102.out] at ho5 | (simp only [Int.reduceToNat] at ho5; rw [← Ny102.out] at ho5)); have HO104 := Am (R_lower ho5 (below_size (zB HB)));replace BK101 := Am (blk_below (g := gb101) (o := .cells #[.int .i32 97, .int .i32 98, .int .i32 99, .int .i32 120, .int .i32 121, .int .i32 233, .int .i32 8364, .int .i32 128512] 62 (0, 0)) (zP BK101) hb);replace HB := Am (below_step (zB HB) hb); clear hb ho5))
 go_loopg [4, 5] k (fun kq v4 v5 w' => ∃ (x4_1 : List Int) (x5_1 : Int), v5 = .int .i64 x5_1 ∧ Aside0 (epitomeref01_Fit.l0 kq a0 x4_1 x5_1 97 98 99 120 121 233 8364 128512 = some r) ∧ Aside0 (kq ≤ k) ∧ Aside0 (Kd.R (Kd.int .i32) 21 w' w.heap.size (fun _ => True) v4 x4_1) ∧ Aside0 (w'.heap[gb101]? = some (.cells #[.int .i32 97, .int .i32 98, .int .i32 99, .int .i32 120, .int .i32 121, .int .i32 233, .int .i32 8364, .int .i32 128512] 62 (0, 0))) ∧ Aside0 (Below w.heap.size w w'))
 case atStart => exact ⟨(y102), (0), zG, H', ⟨Nat.le_refl _⟩, ⟨(zR HO104)⟩, ⟨(zK BK101)⟩, ⟨(zB HB)⟩⟩
 case round =>
  clear H';(try clear c1);(try clear p2);(try clear hcz3_0);(try clear hcz3_1);(try clear hcz3_2);(try clear hcz3_3);(try clear hcz3_4);(try clear hcz3_5);(try clear hcz3_6);(try clear hcz3_7);(try clear hfz3_0);(try clear hfz3_1);(try clear hfz3_2);(try clear hfz3_3);(try clear hfz3_4);(try clear hfz3_5);(try clear hfz3_6);(try clear hfz3_7);obtain ⟨x4_1, x5_1, rfl, HA, HK1, HO_4, BK101, HB⟩ := hrel
  cases gk with
  | zero => exact absurd HA.out (by simp [epitomeref01_Fit.l0])
  | succ k1 =>
   have H := HA.out;clear HA;simp only [epitomeref01_Fit.l0] at H
   by_cases c6 : x5_1 < (a0.size : Int)
   ·rw [if_pos c6] at H;have c6b0 : decide (x5_1 < (a0.size : Int)) = true := decide_eq_true c6
    clear c6;by_cases c7 : 0 ≤ x5_1
    ·rw [if_pos c7] at H;have c7b0 : decide (0 ≤ x5_1) = true := decide_eq_true c7
     clear c7;replace H := Option.bind_eq_some_iff.mp H;obtain ⟨t105, A90, H⟩ := H;have A9 := Am A90;clear A90;by_cases c10 : x4_1.length < 35184372088832
     ·rw [if_pos c10] at H;have LMc10 := Am c10;clear c10;obtain ⟨y106, hy106⟩ : ∃ y_ : List Int, y_ = (x4_1 ++ [t105]) := ⟨_, rfl⟩
      replace H : (epitomeref01_Fit.l0 k1 a0 y106 (wrap64 (x5_1 + 1)) 97 98 99 120 121 233 8364 128512) = some r := by first | (rw [hy106]; with_reducible exact H) | (have H2_ := (Option.bind_some _ _).symm.trans H; rw [hy106]; with_reducible exact H2_) | (have H2_ := (Option.bind_some _ _).symm.trans H; with_reducible exact H2_) | with_reducible exact H | (rw [hy106]; exact H) | exact H
      have Ny106 := Am hy106;clear hy106;have H' := Am H
      clear H;have p8 : 0 ≤ (x5_1 : Int) := of_decide_eq_true (by assumption)
      have q8 : x5_1 < (a0.size : Int) := of_decide_eq_true (by assumption)
      have hx8 := bt_at a0 x5_1
      replace p8 := eq_true p8;replace q8 := eq_true q8;have hcz11_0 : wr.cell? ⟨gb101, 0, none⟩ = some (.int .i32 97) := (blk_cell BK101.out 0).trans rfl
      have hcz11_1 : wr.cell? ⟨gb101, 1, none⟩ = some (.int .i32 98) := (blk_cell BK101.out 1).trans rfl
      have hcz11_2 : wr.cell? ⟨gb101, 2, none⟩ = some (.int .i32 99) := (blk_cell BK101.out 2).trans rfl
      have hcz11_3 : wr.cell? ⟨gb101, 3, none⟩ = some (.int .i32 120) := (blk_cell BK101.out 3).trans rfl
      have hcz11_4 : wr.cell? ⟨gb101, 4, none⟩ = some (.int .i32 121) := (blk_cell BK101.out 4).trans rfl
      have hcz11_5 : wr.cell? ⟨gb101, 5, none⟩ = some (.int .i32 233) := (blk_cell BK101.out 5).trans rfl
      have hcz11_6 : wr.cell? ⟨gb101, 6, none⟩ = some (.int .i32 8364) := (blk_cell BK101.out 6).trans rfl
      have hcz11_7 : wr.cell? ⟨gb101, 7, none⟩ = some (.int .i32 128512) := (blk_cell BK101.out 7).trans rfl
      have hfz11_0 := blk_frozen BK101.out 0;have hfz11_1 := blk_frozen BK101.out 1;have hfz11_2 := blk_frozen BK101.out 2;have hfz11_3 := blk_frozen BK101.out 3;have hfz11_4 := blk_frozen BK101.out 4;have hfz11_5 := blk_frozen BK101.out 5;have hfz11_6 := blk_frozen BK101.out 6;have hfz11_7 := blk_frozen BK101.out 7;have f8b := rem8 (bt a0 x5_1) (bt_nonneg _ _)
      have f8c := fit_cell BK101.out A9.out
      have f8p := eq_true f8b.1
      have f8q := eq_true f8b.2
      have huA := Tryd.underlying62
      clear f8b;go_wp2_with (first | ((with_reducible refine gate_builtin (b := .append) (xs := #[.tmp 14, .tmp 21]) rfl ?_); at_builtin; refine R_append (Kd.int .i32) (w0 := w) w.heap.size rfl (.tmp 14) (.tmp 21) 63 21 (.int .i32 0) 4 rfl Tryd.underlying63 info21 rfl (by decide) (by omega) u4 x4_1 t105 [.int .i32 t105] (fun _ => True) (fun _ => False) rfl rfl ?aP (fun _ hk => hk.elim) ?aF ?aO ?aB ?aS ?aL ?_; (case aP => exact rfl); (case aB => exact (zB HB)); (case aF => exact (fun _ _ => trivial)); (case aO => exact (zR HO_4)); (case aS => exact (below_size (zB HB))); (case aL => have := LMc10.out; omega); intro v107 w13 ho hb hg hat; rw [← Ny106.out] at ho; replace BK101 := Am (zW BK101 hg (R_ne HO_4.out BK101.out (by decide)));replace HB := Am (hb);have HO108 := Am (ho);clear HO_4; clear ho hb hg hat))
      go_roundg k1
      case measure => have := HK1.out; omega
      case rel => exact ⟨(y106), (wrap64 (x5_1 + 1)), zG, H', ⟨by have := HK1.out; omega⟩, ⟨(zR HO108)⟩, ⟨(zK BK101)⟩, ⟨(zB HB)⟩⟩
     ·rw [if_neg c10] at H;exact absurd H (by simp)
    ·rw [if_neg c7] at H;exact absurd H (by simp)
   ·rw [if_neg c6] at H;have c6b0 : decide (x5_1 < (a0.size : Int)) = false := decide_eq_false c6
    clear c6;replace H := Option.bind_eq_some_iff.mp H;obtain ⟨t109, A140, H⟩ := H;replace H : (some t109) = some r := H
    have A14 := Am A140;clear A140;obtain rfl := Option.some.inj H;obtain ⟨Ao15, co15, eo15⟩ := R_slice HO_4.out
    subst eo15
    go_wp2_with (first | ((with_reducible refine gate_callee (f := 46) rfl ?_); refine goesL_ (some 24) rfl rfl Tryd.func46 (by kernel_rfl) rfl #[.slice Ao15 x4_1.length co15] rfl zE ?_; (with_reducible refine (epitomeref01_Of.calls k1 _ _ x4_1 t109 _ ?side1 ?side2 A14.out).mono ?_); (case side1 => exact zI (R_reads' HO_4.out).2.2); (case side2 => exact (R_reads' HO_4.out).2.1); rintro e w16 ⟨rfl, hb⟩; refine ⟨_, rfl, ?_⟩; replace HO_4 := Am (R_below (zR HO_4) hb);replace BK101 := Am (zU BK101 hb);replace HB := Am (below_step (zB HB) hb); (try clear hb)))
    go_ret
    exact ⟨zF, (zB HB)⟩
end Go.Proofs.YtkefbljogjcodaaDoor.F
end
section
namespace Go.Proofs.YtkefbljogjcodaaDoor.F
open Go.RowKit Go.Proofs.YtkefbljogjcodaaDoorW.PrintWords Go.Proofs.YtkefbljogjcodaaDoorW.PrintLast Go.Proofs.YtkefbljogjcodaaDoorW.PrintMore
attribute [local go_sem] max2_int min2_int max_two min_two max_three min_three max_four min_four cell_setCell_isSome
set_option linter.unusedVariables false
set_option linter.unusedSimpArgs false
open Kd
mutual
def epitomeref04_Fit.l0 : Nat → List (S26) → Int → List (S26) → Int → Option ((List (S26)))
  | 0, _, _, _, _ => none
  | k + 1, x0, x1, x5, x6 => if x6 < (x0.length : Int) then (epitomeref04_Fit.j1 k x0 x1 x5 x6 (decide (x6 < 12))) else (epitomeref04_Fit.j1 k x0 x1 x5 x6 false)
def epitomeref04_Fit.j1 : Nat → List (S26) → Int → List (S26) → Int → Bool → Option ((List (S26)))
  | 0, _, _, _, _, _ => none
  | k + 1, x0, x1, x5, x6, x16 => if x16 = true then (if 0 ≤ x6 then (if x6 < (x0.length : Int) then (if (wrap64 (1 + (Int.tmod (wrap64 ((Int.tmod ((rd_T26 x0 x6).f0) 3) + 3)) 3))) = 2 then (if 0 ≤ (mn (((rd_T26 x0 x6).f2).size : Int) 6) then (if (mn (((rd_T26 x0 x6).f2).size : Int) 6) ≤ (((rd_T26 x0 x6).f2).size : Int) then ((epitomeref01_Fit.f k (((rd_T26 x0 x6).f2).extract 0 ((mn (((rd_T26 x0 x6).f2).size : Int) 6) : Int).toNat)).bind fun t108 => (if x5.length < 4398046511104 then (epitomeref04_Fit.l0 k x0 x1 (x5 ++ [(⟨wrap64 (1 + (Int.tmod (wrap64 ((Int.tmod ((rd_T26 x0 x6).f0) 3) + 3)) 3)), 0, t108⟩ : S26)]) (wrap64 (x6 + 1))) else (none))) else (none)) else (none)) else (if x5.length < 4398046511104 then (epitomeref04_Fit.l0 k x0 (wrap64 (x1 - (mn (Int.tmod (wrap64 ((Int.tmod ((rd_T26 x0 x6).f1) 7) + 7)) 7) x1))) (x5 ++ [(⟨wrap64 (1 + (Int.tmod (wrap64 ((Int.tmod ((rd_T26 x0 x6).f0) 3) + 3)) 3)), mn (Int.tmod (wrap64 ((Int.tmod ((rd_T26 x0 x6).f1) 7) + 7)) 7) x1, (⟨#[]⟩ : ByteArray)⟩ : S26)]) (wrap64 (x6 + 1))) else (none))) else (none)) else (none)) else (if x1 > 0 then (if x5.length < 4398046511104 then (some (x5 ++ [(⟨1, x1, (⟨#[]⟩ : ByteArray)⟩ : S26)])) else (none)) else (some x5))
end
def epitomeref04_Fit.f (k : Nat) (l0 : List (S26)) (a1 : Int) : Option ((List (S26))) := epitomeref04_Fit.l0 k l0 a1 (([] : List (S26))) 0
theorem epitomeref04_Fit.mono_l : ∀ k, (∀ y0 y1 y2 y3, LeO (epitomeref04_Fit.l0 k y0 y1 y2 y3) (epitomeref04_Fit.l0 (k + 1) y0 y1 y2 y3)) ∧ (∀ y0 y1 y2 y3 y4, LeO (epitomeref04_Fit.j1 k y0 y1 y2 y3 y4) (epitomeref04_Fit.j1 (k + 1) y0 y1 y2 y3 y4))
  | 0 => ⟨fun _ _ _ _ r h => by simp [epitomeref04_Fit.l0] at h, fun _ _ _ _ _ r h => by simp [epitomeref04_Fit.j1] at h⟩
  | k + 1 => by
    obtain ⟨ih0, ih1⟩ := epitomeref04_Fit.mono_l k
    refine ⟨?_, ?_⟩
    · intro y0 y1 y2 y3
      unfold epitomeref04_Fit.l0
      repeat' first
      | (with_reducible exact ih0 _ _ _ _)
      | (with_reducible exact ih1 _ _ _ _ _)
      | (with_reducible exact epitomeref01_Fit.mono _ _)
      | (with_reducible exact LeO.refl _)
      | (with_reducible exact LeO.none _)
      | (with_reducible refine LeO.ite ?_ ?_)
      | (with_reducible refine LeO.bind ?_ (fun _ => ?_))
      | exact ih0 _ _ _ _
      | exact ih1 _ _ _ _ _
      | exact epitomeref01_Fit.mono _ _
      | exact LeO.none _
      | refine LeO.ite ?_ ?_
      | refine LeO.bind ?_ (fun _ => ?_)
    · intro y0 y1 y2 y3 y4
      unfold epitomeref04_Fit.j1
      repeat' first
      | (with_reducible exact ih0 _ _ _ _)
      | (with_reducible exact ih1 _ _ _ _ _)
      | (with_reducible exact epitomeref01_Fit.mono _ _)
      | (with_reducible exact LeO.refl _)
      | (with_reducible exact LeO.none _)
      | (with_reducible refine LeO.ite ?_ ?_)
      | (with_reducible refine LeO.bind ?_ (fun _ => ?_))
      | exact ih0 _ _ _ _
      | exact ih1 _ _ _ _ _
      | exact epitomeref01_Fit.mono _ _
      | exact LeO.none _
      | refine LeO.ite ?_ ?_
      | refine LeO.bind ?_ (fun _ => ?_)
theorem epitomeref04_Fit.mono : ∀ a0 a1 k, LeO (epitomeref04_Fit.f k a0 a1) (epitomeref04_Fit.f (k + 1) a0 a1) := by
  intro a0 a1 k
  obtain ⟨ih0, ih1⟩ := epitomeref04_Fit.mono_l k
  unfold epitomeref04_Fit.f
  repeat' first
      | (with_reducible exact ih0 _ _ _ _)
      | (with_reducible exact ih1 _ _ _ _ _)
      | (with_reducible exact epitomeref01_Fit.mono _ _)
      | (with_reducible exact LeO.refl _)
      | (with_reducible exact LeO.none _)
      | (with_reducible refine LeO.ite ?_ ?_)
      | (with_reducible refine LeO.bind ?_ (fun _ => ?_))
      | exact ih0 _ _ _ _
      | exact ih1 _ _ _ _ _
      | exact epitomeref01_Fit.mono _ _
      | exact LeO.none _
      | refine LeO.ite ?_ ?_
      | refine LeO.bind ?_ (fun _ => ?_)
def epitomeref04_Fit.T7 : Bool × List (List Nat × List Nat) := (true, [([], []), ([], []), ([0, 1], [0, 1]), ([2], [2]), ([3], [3]), ([], []), ([], []), ([5, 6], [5, 6]), ([7], [7]), ([8], [8]), ([9], [9]), ([10], [10]), ([4, 11], [4, 11]), ([12], [12]), ([0, 1, 2, 3, 4, 5, 6, 7, 8, 9, 10, 11, 12, 13], []), ([14, 13, 13, 0, 1, 2, 3, 4, 5, 6, 7, 8, 9, 10, 11, 12, 13], [13, 14])])
def epitomeref04_Fit.B7 : List Nat := [0, 0, 3, 7, 15, 0, 0, 96, 224, 480, 992, 2016, 4095, 8191, 16383, 32767]
theorem epitomeref04_Fit.tab7 : rtab .any (opsOf Tryd.f20 7) = epitomeref04_Fit.T7 := by kernel_rfl
theorem epitomeref04_Fit.bits7 : waitsOk epitomeref04_Fit.T7.2 epitomeref04_Fit.B7 = true := by kernel_rfl
set_option maxHeartbeats 40000000 in
set_option maxRecDepth 100000 in
theorem epitomeref04_Fit.calls (k : Nat) (A0 : Option Addr) (c0 : Nat) (l0 : List (S26)) (a1 : Int) (r : List (S26)) (w : World) (hr0 : Kd.C k26 w A0 l0.length l0) (hc0 : l0.length ≤ c0) (h : epitomeref04_Fit.f k l0 a1 = some r) :
  Calls Tryd.prog 20 #[.slice A0 l0.length c0, .int .i64 a1] w fun e w' => ∃ v0_ : Value, e = .returned (v0_) ∧ Kd.R k26 26 w' w.heap.size (fun _ => True) v0_ r ∧ Below w.heap.size w w' := by
 have hu26 := Tryd.underlying26
 have HR0 := Am hr0;have HC0 := Am hc0;clear hr0 hc0;have HB := Am (Below.refl w.heap.size w)
 have H : (epitomeref04_Fit.l0 k l0 a1 (([] : List (S26))) 0) = some r := h
 clear h;obtain ⟨y101, hy101⟩ : ∃ y_ : List (S26), y_ = (([] : List (S26))) := ⟨_, rfl⟩
 replace H : (epitomeref04_Fit.l0 k l0 a1 y101 0) = some r := by first | (rw [hy101]; with_reducible exact H) | (have H2_ := (Option.bind_some _ _).symm.trans H; rw [hy101]; with_reducible exact H2_) | (have H2_ := (Option.bind_some _ _).symm.trans H; with_reducible exact H2_) | with_reducible exact H | (rw [hy101]; exact H) | exact H
 have Ny101 := Am hy101;clear hy101;have H' := Am H
 clear H;go_enter Tryd.func20, Tryd.ntmps20
 go_wp2_with (first | ((with_reducible refine gate_dst (N := 8) rfl ?_); refine R_lit k26 _ 26 ?hg (N := 8) ?hd (xs := ([] : List (S26))) (inner := []) (ok := fun _ => True) (okp := fun _ => True) ?hr ?hp (fun _ hk => hk) trivial (Below.refl _ _) (Nat.le_refl _) (by simp) ?_; (case hd => rfl); (case hg => rfl); (case hr => first | (go_simp; done) | (go_simp; rfl)); (case hp => exact (Reps.none _ _)); intro v102 w3 ho4 hb hg_ hnew_; clear hg_ hnew_; (first | rw [← Ny101.out] at ho4 | (simp only [Int.reduceToNat] at ho4; rw [← Ny101.out] at ho4)); have HO103 := Am (R_lower ho4 (below_size (zB HB)));replace HB := Am (below_step (zB HB) hb); clear hb ho4))
 go_loopg [1, 5, 6] k (fun kq v1 v5 v6 w' => ∃ (x1_1 : Int) (x5_1 : List (S26)) (x6_1 : Int), v1 = .int .i64 x1_1 ∧ v6 = .int .i64 x6_1 ∧ Aside0 (epitomeref04_Fit.l0 kq l0 x1_1 x5_1 x6_1 = some r) ∧ Aside0 (kq ≤ k) ∧ Aside0 (Kd.R k26 26 w' w.heap.size (fun _ => True) v5 x5_1) ∧ Aside0 (Below w.heap.size w w'))
 case atStart => exact ⟨(a1), (y101), (0), zG, zG, H', ⟨Nat.le_refl _⟩, ⟨(zR HO103)⟩, ⟨(zB HB)⟩⟩
 case round =>
  clear H';(try clear c2);(try clear p2);obtain ⟨x1_1, x5_1, x6_1, rfl, rfl, HA, HK1, HO_5, HB⟩ := hrel
  cases gk with
  | zero => exact absurd HA.out (by simp [epitomeref04_Fit.l0])
  | succ k1 =>
   have H := HA.out;clear HA;simp only [epitomeref04_Fit.l0] at H
   have HC5 := Am H;clear H;go_upto_region 3 with (fail)
   go_cut [16] (fun v16 wc => ∃ (kq : Nat) (x16_4 : Bool), v16 = .bool x16_4 ∧ Aside0 (epitomeref04_Fit.j1 kq l0 x1_1 x5_1 x6_1 x16_4 = some r) ∧ Aside0 (kq ≤ k1) ∧ Aside0 (Kd.R k26 26 wc w.heap.size (fun _ => True) u5 x5_1) ∧ Aside0 (Below w.heap.size w wc))
   case first =>
    have H := HC5.out;clear HC5;by_cases c6 : x6_1 < (l0.length : Int)
    ·rw [if_pos c6] at H;have c6b0 : decide (x6_1 < (l0.length : Int)) = true := decide_eq_true c6
     clear c6;(first | rw [c6b0] | (simp only [i64_w, i32_w]; rw [c6b0]) | skip)
     have H' := Am H
     clear H;go_wp2
     go_meet
     case rel => exact ⟨_, (decide (x6_1 < 12)), zG, H', ⟨by have := HK1.out; first | omega | exact Nat.le_refl _⟩, ⟨(zR HO_5)⟩, ⟨(zB HB)⟩⟩
    ·rw [if_neg c6] at H;have c6b0 : decide (x6_1 < (l0.length : Int)) = false := decide_eq_false c6
     clear c6;(first | rw [c6b0] | (simp only [i64_w, i32_w]; rw [c6b0]) | skip)
     have H' := Am H
     clear H;go_wp2
     go_meet
     case rel => exact ⟨_, (false), zG, H', ⟨by have := HK1.out; first | omega | exact Nat.le_refl _⟩, ⟨(zR HO_5)⟩, ⟨(zB HB)⟩⟩
   case rest =>
    clear HC5;(try clear c2);(try clear p2);(try clear c6);(try clear c6b0);(try clear p2);obtain ⟨kq, x16_4, rfl, HA, HJ4, HO_5, HB⟩ := hcut
    cases kq with
    | zero => exact absurd HA.out (by simp [epitomeref04_Fit.j1])
    | succ kj4 =>
     have H := HA.out;clear HA;simp only [epitomeref04_Fit.j1] at H
     by_cases c7 : x16_4 = true
     ·subst c7
      have H1 : (if 0 ≤ x6_1 then (if x6_1 < (l0.length : Int) then (if (wrap64 (1 + (Int.tmod (wrap64 ((Int.tmod ((rd_T26 l0 x6_1).f0) 3) + 3)) 3))) = 2 then (if 0 ≤ (mn (((rd_T26 l0 x6_1).f2).size : Int) 6) then (if (mn (((rd_T26 l0 x6_1).f2).size : Int) 6) ≤ (((rd_T26 l0 x6_1).f2).size : Int) then ((epitomeref01_Fit.f kj4 (((rd_T26 l0 x6_1).f2).extract 0 ((mn (((rd_T26 l0 x6_1).f2).size : Int) 6) : Int).toNat)).bind fun t108 => (if x5_1.length < 4398046511104 then (epitomeref04_Fit.l0 kj4 l0 x1_1 (x5_1 ++ [(⟨wrap64 (1 + (Int.tmod (wrap64 ((Int.tmod ((rd_T26 l0 x6_1).f0) 3) + 3)) 3)), 0, t108⟩ : S26)]) (wrap64 (x6_1 + 1))) else (none))) else (none)) else (none)) else (if x5_1.length < 4398046511104 then (epitomeref04_Fit.l0 kj4 l0 (wrap64 (x1_1 - (mn (Int.tmod (wrap64 ((Int.tmod ((rd_T26 l0 x6_1).f1) 7) + 7)) 7) x1_1))) (x5_1 ++ [(⟨wrap64 (1 + (Int.tmod (wrap64 ((Int.tmod ((rd_T26 l0 x6_1).f0) 3) + 3)) 3)), mn (Int.tmod (wrap64 ((Int.tmod ((rd_T26 l0 x6_1).f1) 7) + 7)) 7) x1_1, (⟨#[]⟩ : ByteArray)⟩ : S26)]) (wrap64 (x6_1 + 1))) else (none))) else (none)) else (none)) = some r := by rw [if_pos rfl] at H; exact H
      clear H;have H := H1
      clear H1;by_cases c8 : 0 ≤ x6_1
      ·rw [if_pos c8] at H;have c8b0 : decide (0 ≤ x6_1) = true := decide_eq_true c8
       clear c8;by_cases c9 : x6_1 < (l0.length : Int)
       ·rw [if_pos c9] at H;have c9b0 : decide (x6_1 < (l0.length : Int)) = true := decide_eq_true c9
        clear c9;by_cases c10 : (wrap64 (1 + (Int.tmod (wrap64 ((Int.tmod ((rd_T26 l0 x6_1).f0) 3) + 3)) 3))) = 2
        ·rw [if_pos c10] at H;have c10b0 : ((wrap64 (1 + (Int.tmod (wrap64 ((Int.tmod ((rd_T26 l0 x6_1).f0) 3) + 3)) 3))) == 2) = true := beq_iff_eq.mpr c10
         have c10b1 : ((wrap64 (1 + (Int.tmod (wrap64 ((Int.tmod ((rd_T26 l0 x6_1).f0) 3) + 3)) 3))) != 2) = false := bne_eq_false_iff_eq.mpr c10
         clear c10;obtain ⟨ji11, hji11⟩ : ∃ j_ : Int, (mn (((rd_T26 l0 x6_1).f2).size : Int) 6) = j_ := ⟨_, rfl⟩
         replace H : (if 0 ≤ (ji11) then (if (ji11) ≤ (((rd_T26 l0 x6_1).f2).size : Int) then ((epitomeref01_Fit.f kj4 (((rd_T26 l0 x6_1).f2).extract 0 ((ji11) : Int).toNat)).bind fun t108 => (if x5_1.length < 4398046511104 then (epitomeref04_Fit.l0 kj4 l0 x1_1 (x5_1 ++ [(⟨wrap64 (1 + (Int.tmod (wrap64 ((Int.tmod ((rd_T26 l0 x6_1).f0) 3) + 3)) 3)), 0, t108⟩ : S26)]) (wrap64 (x6_1 + 1))) else (none))) else (none)) else (none)) = some r := by first | (rw [hji11] at H; exact H) | (simp only [hji11] at H ⊢; exact H)
         have hji11_ : (if 6 < (((rd_T26 l0 x6_1).f2).size : Int) then 6 else (((rd_T26 l0 x6_1).f2).size : Int)) = ji11 := hji11
         by_cases c12 : 0 ≤ (ji11)
         ·rw [if_pos c12] at H;have c12b0 := eq_true c12
          have c12b1 : decide (0 ≤ (ji11)) = true := decide_eq_true c12
          clear c12;by_cases c13 : (ji11) ≤ (((rd_T26 l0 x6_1).f2).size : Int)
          ·rw [if_pos c13] at H;have c13b0 := eq_true c13
           have c13b1 : decide ((ji11) ≤ (((rd_T26 l0 x6_1).f2).size : Int)) = true := decide_eq_true c13
           clear c13;replace H := Option.bind_eq_some_iff.mp H;obtain ⟨t108, A140, H⟩ := H;have A14 := Am A140;clear A140;by_cases c15 : x5_1.length < 4398046511104
           ·rw [if_pos c15] at H;have LMc15 := Am c15;clear c15;obtain ⟨y109, hy109⟩ : ∃ y_ : List (S26), y_ = (x5_1 ++ [(⟨wrap64 (1 + (Int.tmod (wrap64 ((Int.tmod ((rd_T26 l0 x6_1).f0) 3) + 3)) 3)), 0, t108⟩ : S26)]) := ⟨_, rfl⟩
            replace H : (epitomeref04_Fit.l0 kj4 l0 x1_1 y109 (wrap64 (x6_1 + 1))) = some r := by first | (rw [hy109]; with_reducible exact H) | (have H2_ := (Option.bind_some _ _).symm.trans H; rw [hy109]; with_reducible exact H2_) | (have H2_ := (Option.bind_some _ _).symm.trans H; with_reducible exact H2_) | with_reducible exact H | (rw [hy109]; exact H) | exact H
            have Ny109 := Am hy109;clear hy109;have H' := Am H
            clear H;have p104 : 0 ≤ (x6_1 : Int) := of_decide_eq_true (by assumption)
            have q104 : x6_1 < (l0.length : Int) := of_decide_eq_true (by assumption)
            obtain ⟨ad104, e104, hx104_0, hx104_1, hx104_2⟩ := at_T26 HR0.out x6_1 p104 q104
            cases e104
            replace hx104_0 := (HB.out.cell (World.block_lt_of_cell? w _ hx104_0)).trans hx104_0
            replace hx104_1 := (HB.out.cell (World.block_lt_of_cell? w _ hx104_1)).trans hx104_1
            replace hx104_2 := (HB.out.cell (World.block_lt_of_cell? w _ hx104_2)).trans hx104_2
            replace p104 := eq_true p104;replace q104 := eq_true q104;try go_wp2_with (first | ((with_reducible refine gate_dst (N := 7) rfl ?_); refine box_event ?hg (N := 7) ?hd (cs := #[.int .i64 0, .int .i64 0, .string (⟨#[]⟩ : ByteArray)]) (t := 26) ?hr ?_; (case hd => rfl); (case hg => rfl); (case hr => first | (go_simp; done) | (go_simp; rfl)); intro gb105 hg w16 hbox hb; replace HO_5 := Am (R_below (R_elderB (zR HO_5) gb105 (Nat.le_of_eq hg.symm)) hb);have BK105 := Am (hbox);have GW105 := Am (zO (w := w) HB hg);have GE105 := Am (zO (w := w) HB hg);replace HB := Am (below_step (zB HB) hb); clear hb hbox hg; obtain ⟨hcz17_0, hcz17_1, hcz17_2, hfz17_0, hfz17_1, hfz17_2⟩ := zc3 BK105))
            have n0_ : Aside0 (Kd.R k26 26 (((w16.setCell ⟨gb105, 0, none⟩ (.int .i64 (wrap64 (1 + (Int.tmod (wrap64 ((Int.tmod ((rd_T26 l0 x6_1).f0) 3) + 3)) 3))))).setCell ⟨gb105, 1, none⟩ (.int .i64 0)).setCell ⟨gb105, 2, none⟩ (.string (⟨#[]⟩ : ByteArray))) w.heap.size (fun k_ => k_ ≠ gb105) u5 x5_1) := ⟨by (with_reducible repeat (first | apply R_alloc | apply R_drewN | apply R_drew)); exact R_mono (zY (R_mono HO_5.out (fun k_ hk => (⟨hk, hk.2⟩ : _ ∧ k_ ≠ gb105))) gb105 (fun _ hk => hk.2) (.int .i64 (wrap64 (1 + (Int.tmod (wrap64 ((Int.tmod ((rd_T26 l0 x6_1).f0) 3) + 3)) 3)))) (.int .i64 0) (.string (⟨#[]⟩ : ByteArray))) (fun _ hk => hk.1.2)⟩
            have n1_ : Aside0 ((((w16.setCell ⟨gb105, 0, none⟩ (.int .i64 (wrap64 (1 + (Int.tmod (wrap64 ((Int.tmod ((rd_T26 l0 x6_1).f0) 3) + 3)) 3))))).setCell ⟨gb105, 1, none⟩ (.int .i64 0)).setCell ⟨gb105, 2, none⟩ (.string (⟨#[]⟩ : ByteArray))).heap[gb105]? = some (.cells #[.int .i64 (wrap64 (1 + (Int.tmod (wrap64 ((Int.tmod ((rd_T26 l0 x6_1).f0) 3) + 3)) 3))), .int .i64 0, .string (⟨#[]⟩ : ByteArray)] 26 (0, 0))) := ⟨(zP BK105)⟩
            have n2_ : Aside0 (Below w.heap.size w (((w16.setCell ⟨gb105, 0, none⟩ (.int .i64 (wrap64 (1 + (Int.tmod (wrap64 ((Int.tmod ((rd_T26 l0 x6_1).f0) 3) + 3)) 3))))).setCell ⟨gb105, 1, none⟩ (.int .i64 0)).setCell ⟨gb105, 2, none⟩ (.string (⟨#[]⟩ : ByteArray)))) := ⟨(zB HB)⟩
            (try clear HO_5);(try clear BK105);(try clear HB);generalize (((w16.setCell ⟨gb105, 0, none⟩ (.int .i64 (wrap64 (1 + (Int.tmod (wrap64 ((Int.tmod ((rd_T26 l0 x6_1).f0) 3) + 3)) 3))))).setCell ⟨gb105, 1, none⟩ (.int .i64 0)).setCell ⟨gb105, 2, none⟩ (.string (⟨#[]⟩ : ByteArray))) = w18 at n0_ n1_ n2_ ⊢
            have HO_5 := n0_;have BK105 := n1_;have HB := n2_;clear n0_ n1_ n2_;replace HO_5 := Am (R_drew HO_5.out);replace BK105 := Am (blk_drew BK105.out);replace HB := Am (below_drew1 HB.out);have p106 : 0 ≤ (x6_1 : Int) := of_decide_eq_true (by assumption)
            have q106 : x6_1 < (l0.length : Int) := of_decide_eq_true (by assumption)
            obtain ⟨ad106, e106, hx106_0, hx106_1, hx106_2⟩ := at_T26 HR0.out x6_1 p106 q106
            have hw106_2 := hx106_2
            have hw106_1 := hx106_1
            have hw106_0 := hx106_0
            obtain rfl : ad104 = ad106 := (by injection e106)
            replace hx106_0 := (HB.out.cell (World.block_lt_of_cell? w _ hx106_0)).trans hx106_0
            replace hx106_1 := (HB.out.cell (World.block_lt_of_cell? w _ hx106_1)).trans hx106_1
            replace hx106_2 := (HB.out.cell (World.block_lt_of_cell? w _ hx106_2)).trans hx106_2
            replace p106 := eq_true p106;replace q106 := eq_true q106;have p107 : 0 ≤ (x6_1 : Int) := of_decide_eq_true (by assumption)
            have q107 : x6_1 < (l0.length : Int) := of_decide_eq_true (by assumption)
            obtain ⟨ad107, e107, hx107_0, hx107_1, hx107_2⟩ := at_T26 HR0.out x6_1 p107 q107
            have hw107_2 := hx107_2
            have hw107_1 := hx107_1
            have hw107_0 := hx107_0
            obtain rfl : ad104 = ad107 := (by injection e107)
            replace hx107_0 := (HB.out.cell (World.block_lt_of_cell? w _ hx107_0)).trans hx107_0
            replace hx107_1 := (HB.out.cell (World.block_lt_of_cell? w _ hx107_1)).trans hx107_1
            replace hx107_2 := (HB.out.cell (World.block_lt_of_cell? w _ hx107_2)).trans hx107_2
            replace p107 := eq_true p107;replace q107 := eq_true q107;refine start_ (n := 16) (S := fun w' => w'.cell? (ad104.add ((x6_1).toNat * 3)) = some (.int .i64 ((rd_T26 l0 x6_1).f0)) ∧ w'.cell? ⟨(ad104.add ((x6_1).toNat * 3)).block, (ad104.add ((x6_1).toNat * 3)).off + 1, none⟩ = some (.int .i64 ((rd_T26 l0 x6_1).f1)) ∧ w'.cell? ⟨(ad104.add ((x6_1).toNat * 3)).block, (ad104.add ((x6_1).toNat * 3)).off + 2, none⟩ = some (.string ((rd_T26 l0 x6_1).f2)) ∧ w'.cell? (ad104.add ((x6_1).toNat * 3)) = some (.int .i64 ((rd_T26 l0 x6_1).f0)) ∧ w'.cell? ⟨(ad104.add ((x6_1).toNat * 3)).block, (ad104.add ((x6_1).toNat * 3)).off + 1, none⟩ = some (.int .i64 ((rd_T26 l0 x6_1).f1)) ∧ w'.cell? ⟨(ad104.add ((x6_1).toNat * 3)).block, (ad104.add ((x6_1).toNat * 3)).off + 2, none⟩ = some (.string ((rd_T26 l0 x6_1).f2))) (ds := []) #[false, false, false, false, false, false, false, false, false, false, false, false, false, false, false, false] (by kernel_rfl) rfl rfl ⟨((HB.out.cell (World.block_lt_of_cell? w _ hw106_0)).trans hw106_0), ((HB.out.cell (World.block_lt_of_cell? w _ hw106_1)).trans hw106_1), ((HB.out.cell (World.block_lt_of_cell? w _ hw106_2)).trans hw106_2), ((HB.out.cell (World.block_lt_of_cell? w _ hw107_0)).trans hw107_0), ((HB.out.cell (World.block_lt_of_cell? w _ hw107_1)).trans hw107_1), ((HB.out.cell (World.block_lt_of_cell? w _ hw107_2)).trans hw107_2)⟩ (fun hHeld => ?_); refine with_tabW epitomeref04_Fit.tab7 epitomeref04_Fit.bits7 (fun HT_ HW_ => ?_)
            generalize w18.drew = w19 at HO_5 BK105 HB hx106_0 hx106_1 hx106_2 hx107_0 hx107_1 hx107_2 hHeld ⊢
            refine pure_ (i := 0) (N := some 32) (v := ?_) (a' := ?_) #[true, false, false, false, false, false, false, false, false, false, false, false, false, false, false, false] rfl rfl (any_of HT_.out (by kernel_rfl)) (fun _ _ _ h => h) (Or.inl ⟨by rfl, ?_⟩) ?_ ?_
            rotate_left
            ·intro w'
             go_simp;with_reducible rfl
            rotate_left
            ·simp only [Act.put, zS, i64_w, i32_w]
             rfl
            refine pure_ (i := 1) (N := some 33) (v := ?_) (a' := ?_) #[true, true, false, false, false, false, false, false, false, false, false, false, false, false, false, false] rfl rfl (any_of HT_.out (by kernel_rfl)) (fun _ _ _ h => h) (Or.inl ⟨by rfl, ?_⟩) ?_ ?_
            rotate_left
            ·intro w'
             go_simp;with_reducible rfl
            rotate_left
            ·simp only [Act.put, zS, i64_w, i32_w]
             rfl
            refine pure_ (i := 2) (N := some 34) (v := ?_) (a' := ?_) #[true, true, true, false, false, false, false, false, false, false, false, false, false, false, false, false] rfl rfl (any_of HT_.out (by kernel_rfl)) (fun _ _ _ h => h) (Or.inl ⟨by rfl, ?_⟩) ?_ ?_
            rotate_left
            ·intro w'
             go_simp;with_reducible rfl
            rotate_left
            ·simp only [Act.put, zS, i64_w, i32_w]
             rfl
            refine pure_ (i := 3) (N := some 35) (v := ?_) (a' := ?_) #[true, true, true, true, false, false, false, false, false, false, false, false, false, false, false, false] rfl rfl (any_of HT_.out (by kernel_rfl)) (fun _ _ _ h => h) (Or.inl ⟨by rfl, ?_⟩) ?_ ?_
            rotate_left
            ·intro w'
             go_simp;with_reducible rfl
            rotate_left
            ·simp only [Act.put, zS, i64_w, i32_w]
             rfl
            refine pure_ (i := 5) (N := some 37) (v := ?_) (a' := ?_) #[true, true, true, true, false, true, false, false, false, false, false, false, false, false, false, false] rfl rfl (any_of HT_.out (by kernel_rfl)) (fun _ _ _ h => h) (Or.inl ⟨by rfl, ?_⟩) ?_ ?_
            rotate_left
            ·intro w'
             go_simp;with_reducible rfl
            rotate_left
            ·simp only [Act.put, zS, i64_w, i32_w]
             rfl
            refine pure_ (i := 6) (N := some 38) (v := ?_) (a' := ?_) #[true, true, true, true, false, true, true, false, false, false, false, false, false, false, false, false] rfl rfl (any_of HT_.out (by kernel_rfl)) (fun _ _ _ h => h) (Or.inl ⟨by rfl, ?_⟩) ?_ ?_
            rotate_left
            ·intro w'
             go_simp;with_reducible rfl
            rotate_left
            ·simp only [Act.put, zS, i64_w, i32_w]
             rfl
            refine pure_ (i := 7) (N := some 39) (v := ?_) (a' := ?_) #[true, true, true, true, false, true, true, true, false, false, false, false, false, false, false, false] rfl rfl (any_of HT_.out (by kernel_rfl)) (fun _ _ _ h => h) (Or.inl ⟨by rfl, ?_⟩) ?_ ?_
            rotate_left
            ·intro w'
             go_simp;with_reducible rfl
            rotate_left
            ·simp only [Act.put, zS, i64_w, i32_w]
             rfl
            refine pure_ (i := 8) (N := some 40) (v := ?_) (a' := ?_) #[true, true, true, true, false, true, true, true, true, false, false, false, false, false, false, false] rfl rfl (any_of HT_.out (by kernel_rfl)) (fun _ _ _ h => h) (Or.inl ⟨by rfl, ?_⟩) ?_ ?_
            rotate_left
            ·intro w'
             go_simp;with_reducible rfl
            rotate_left
            ·simp only [Act.put, zS, i64_w, i32_w]
             rfl
            refine take_ (i := 4) (N := some 36) (v := ?_) (a' := ?_) #[true, true, true, true, true, true, true, true, true, false, false, false, false, false, false, false] rfl rfl (take_ofW HT_.out HW_.out (by kernel_rfl)) (fun _ _ _ h => h) (Or.inl ⟨by rfl, ?_⟩) hHeld ?_ ?_
            rotate_left
            ·rintro w' ⟨s0, s1, s2, s3, s4, s5⟩
             go_simp;with_reducible rfl
            rotate_left
            ·simp only [Act.put, zS, i64_w, i32_w]
             rfl
            refine take_ (i := 9) (N := some 41) (v := ?_) (a' := ?_) #[true, true, true, true, true, true, true, true, true, true, false, false, false, false, false, false] rfl rfl (take_ofW HT_.out HW_.out (by kernel_rfl)) (fun _ _ _ h => h) (Or.inl ⟨by rfl, ?_⟩) hHeld ?_ ?_
            rotate_left
            ·rintro w' ⟨s0, s1, s2, s3, s4, s5⟩
             go_simp;with_reducible rfl
            rotate_left
            ·simp only [Act.put, zS, i64_w, i32_w]
             rfl
            refine pure_ (i := 10) (N := some 42) (v := ?_) (a' := ?_) #[true, true, true, true, true, true, true, true, true, true, true, false, false, false, false, false] rfl rfl (any_of HT_.out (by kernel_rfl)) (fun _ _ _ h => h) (Or.inl ⟨by rfl, ?_⟩) ?_ ?_
            rotate_left
            ·intro w'
             go_simp;with_reducible rfl
            rotate_left
            ·simp only [Act.put, zS, i64_w, i32_w]
             rfl
            refine pure_ (i := 11) (N := some 43) (v := ?_) (a' := ?_) #[true, true, true, true, true, true, true, true, true, true, true, true, false, false, false, false] rfl rfl (any_of HT_.out (by kernel_rfl)) (fun _ _ _ h => h) (Or.inl ⟨by rfl, ?_⟩) ?_ ?_
            rotate_left
            ·intro w'
             go_simp;with_reducible rfl
            rotate_left
            ·simp only [Act.put, zS, i64_w, i32_w]
             rfl
            refine pure_ (i := 12) (N := some 44) (v := ?_) (a' := ?_) #[true, true, true, true, true, true, true, true, true, true, true, true, true, false, false, false] rfl rfl (any_of HT_.out (by kernel_rfl)) (fun _ _ _ h => h) (Or.inl ⟨by rfl, ?_⟩) ?_ ?_
            rotate_left
            ·intro w'
             go_simp;with_reducible rfl
            rotate_left
            ·simp only [Act.put, zS, i64_w, i32_w]
             rfl
            refine one_ (i := 13) (N := some 45) #[true, true, true, true, true, true, true, true, true, true, true, true, true, true, false, false] rfl rfl (one_of HT_.out (by kernel_rfl)) (by decide) (fun K hK => ?_)
            refine goes_ Tryd.func14 (by kernel_rfl) rfl #[.string (((rd_T26 l0 x6_1).f2).extract 0 ((ji11) : Int).toNat)] (by rfl) rfl rfl (by (try simp only [List.map_toArray, List.map_cons, List.map_nil]); first | done | (simp only [hji11]; rfl) | rfl | (simp only [List.length_drop, List.length_take]; rfl)) ?_
            with_reducible refine (epitomeref01_Fit.calls kj4 (((rd_T26 l0 x6_1).f2).extract 0 ((ji11) : Int).toNat) t108 _ A14.out).mono ?_
            rintro e w20 ⟨rfl, hb⟩
            refine ⟨_, rfl, ?_⟩
            replace HO_5 := Am (R_below (zR HO_5) hb);replace BK105 := Am (zU BK105 hb);replace HB := Am (below_step (zB HB) hb);(try clear hb);(try clear hb2);(try clear hk);(try clear hi);refine hK.out _ _ ⟨((HB.out.cell (World.block_lt_of_cell? w _ hw106_0)).trans hw106_0), ((HB.out.cell (World.block_lt_of_cell? w _ hw106_1)).trans hw106_1), ((HB.out.cell (World.block_lt_of_cell? w _ hw106_2)).trans hw106_2), ((HB.out.cell (World.block_lt_of_cell? w _ hw107_0)).trans hw107_0), ((HB.out.cell (World.block_lt_of_cell? w _ hw107_1)).trans hw107_1), ((HB.out.cell (World.block_lt_of_cell? w _ hw107_2)).trans hw107_2)⟩ (fun hHeld => ?_)
            clear hK K;refine norm_ (a' := ?_) ?_ ?_
            rotate_left
            ·show Act.put _ (some 45) _ = _
             simp only [Act.put, zS, i64_w, i32_w]
             rfl
            refine pure_ (i := 14) (N := some 46) (v := ?_) (a' := ?_) #[true, true, true, true, true, true, true, true, true, true, true, true, true, true, true, false] rfl rfl (any_of HT_.out (by kernel_rfl)) (fun _ _ _ h => h) (Or.inl ⟨by rfl, ?_⟩) ?_ ?_
            rotate_left
            ·intro w'
             go_simp;with_reducible rfl
            rotate_left
            ·simp only [Act.put, zS, i64_w, i32_w]
             rfl
            refine one_ (i := 15) (N := none) #[true, true, true, true, true, true, true, true, true, true, true, true, true, true, true, true] rfl rfl (one_of HT_.out (by kernel_rfl)) (by decide) (fun K hK => ?_)
            have hs21 : w20.cell? ⟨gb105, 2, none⟩ = some (.string (⟨#[]⟩ : ByteArray)) := (blk_cell BK105.out 2).trans rfl
            have hfs21 := blk_frozen BK105.out 2;refine skip_ (w1 := ?_) (by rfl) rfl ?_ ?_
            rotate_left
            ·go_simp;rfl
            refine hK.out _ _ ⟨((cell_far (p := ⟨gb105, _, none⟩) (by first | exact Nat.ne_of_lt (Nat.lt_of_lt_of_le (by have := World.block_lt_of_cell? _ _ hw106_0; first | rwa [add_block] at this | exact this) GW105.out) | (rw [add_block]; exact Nat.ne_of_lt (Nat.lt_of_lt_of_le (by have := World.block_lt_of_cell? _ _ hw106_0; first | rwa [add_block] at this | exact this) GW105.out)) | (show (Addr.add _ _).block ≠ _; rw [add_block]; exact Nat.ne_of_lt (Nat.lt_of_lt_of_le (by have := World.block_lt_of_cell? _ _ hw106_0; first | rwa [add_block] at this | exact this) GW105.out)) | (dsimp only; exact Nat.ne_of_lt (Nat.lt_of_lt_of_le (by have := World.block_lt_of_cell? _ _ hw106_0; first | rwa [add_block] at this | exact this) GW105.out))) _).trans (hHeld.1)), ((cell_far (p := ⟨gb105, _, none⟩) (by first | exact Nat.ne_of_lt (Nat.lt_of_lt_of_le (by have := World.block_lt_of_cell? _ _ hw106_1; first | rwa [add_block] at this | exact this) GW105.out) | (rw [add_block]; exact Nat.ne_of_lt (Nat.lt_of_lt_of_le (by have := World.block_lt_of_cell? _ _ hw106_1; first | rwa [add_block] at this | exact this) GW105.out)) | (show (Addr.add _ _).block ≠ _; rw [add_block]; exact Nat.ne_of_lt (Nat.lt_of_lt_of_le (by have := World.block_lt_of_cell? _ _ hw106_1; first | rwa [add_block] at this | exact this) GW105.out)) | (dsimp only; exact Nat.ne_of_lt (Nat.lt_of_lt_of_le (by have := World.block_lt_of_cell? _ _ hw106_1; first | rwa [add_block] at this | exact this) GW105.out))) _).trans (hHeld.2.1)), ((cell_far (p := ⟨gb105, _, none⟩) (by first | exact Nat.ne_of_lt (Nat.lt_of_lt_of_le (by have := World.block_lt_of_cell? _ _ hw106_2; first | rwa [add_block] at this | exact this) GW105.out) | (rw [add_block]; exact Nat.ne_of_lt (Nat.lt_of_lt_of_le (by have := World.block_lt_of_cell? _ _ hw106_2; first | rwa [add_block] at this | exact this) GW105.out)) | (show (Addr.add _ _).block ≠ _; rw [add_block]; exact Nat.ne_of_lt (Nat.lt_of_lt_of_le (by have := World.block_lt_of_cell? _ _ hw106_2; first | rwa [add_block] at this | exact this) GW105.out)) | (dsimp only; exact Nat.ne_of_lt (Nat.lt_of_lt_of_le (by have := World.block_lt_of_cell? _ _ hw106_2; first | rwa [add_block] at this | exact this) GW105.out))) _).trans (hHeld.2.2.1)), ((cell_far (p := ⟨gb105, _, none⟩) (by first | exact Nat.ne_of_lt (Nat.lt_of_lt_of_le (by have := World.block_lt_of_cell? _ _ hw107_0; first | rwa [add_block] at this | exact this) GW105.out) | (rw [add_block]; exact Nat.ne_of_lt (Nat.lt_of_lt_of_le (by have := World.block_lt_of_cell? _ _ hw107_0; first | rwa [add_block] at this | exact this) GW105.out)) | (show (Addr.add _ _).block ≠ _; rw [add_block]; exact Nat.ne_of_lt (Nat.lt_of_lt_of_le (by have := World.block_lt_of_cell? _ _ hw107_0; first | rwa [add_block] at this | exact this) GW105.out)) | (dsimp only; exact Nat.ne_of_lt (Nat.lt_of_lt_of_le (by have := World.block_lt_of_cell? _ _ hw107_0; first | rwa [add_block] at this | exact this) GW105.out))) _).trans (hHeld.2.2.2.1)), ((cell_far (p := ⟨gb105, _, none⟩) (by first | exact Nat.ne_of_lt (Nat.lt_of_lt_of_le (by have := World.block_lt_of_cell? _ _ hw107_1; first | rwa [add_block] at this | exact this) GW105.out) | (rw [add_block]; exact Nat.ne_of_lt (Nat.lt_of_lt_of_le (by have := World.block_lt_of_cell? _ _ hw107_1; first | rwa [add_block] at this | exact this) GW105.out)) | (show (Addr.add _ _).block ≠ _; rw [add_block]; exact Nat.ne_of_lt (Nat.lt_of_lt_of_le (by have := World.block_lt_of_cell? _ _ hw107_1; first | rwa [add_block] at this | exact this) GW105.out)) | (dsimp only; exact Nat.ne_of_lt (Nat.lt_of_lt_of_le (by have := World.block_lt_of_cell? _ _ hw107_1; first | rwa [add_block] at this | exact this) GW105.out))) _).trans (hHeld.2.2.2.2.1)), ((cell_far (p := ⟨gb105, _, none⟩) (by first | exact Nat.ne_of_lt (Nat.lt_of_lt_of_le (by have := World.block_lt_of_cell? _ _ hw107_2; first | rwa [add_block] at this | exact this) GW105.out) | (rw [add_block]; exact Nat.ne_of_lt (Nat.lt_of_lt_of_le (by have := World.block_lt_of_cell? _ _ hw107_2; first | rwa [add_block] at this | exact this) GW105.out)) | (show (Addr.add _ _).block ≠ _; rw [add_block]; exact Nat.ne_of_lt (Nat.lt_of_lt_of_le (by have := World.block_lt_of_cell? _ _ hw107_2; first | rwa [add_block] at this | exact this) GW105.out)) | (dsimp only; exact Nat.ne_of_lt (Nat.lt_of_lt_of_le (by have := World.block_lt_of_cell? _ _ hw107_2; first | rwa [add_block] at this | exact this) GW105.out))) _).trans (hHeld.2.2.2.2.2))⟩ (fun hHeld => ?_)
            clear hK K;refine done_ (done_of HT_.out (by kernel_rfl)) ?_
            obtain ⟨hcz22_0, hcz22_1, hcz22_2, hfz22_0, hfz22_1, hfz22_2⟩ := zc3 BK105;try go_wp2_with (first | ((with_reducible refine gate_builtin (b := .append) (xs := #[.tmp 62, .tmp 64]) rfl ?_); at_builtin; refine R_append k26 (w0 := w) w.heap.size rfl (.tmp 62) (.tmp 64) 27 26 (.agg #[(.int .i64 0), (.int .i64 0), (.string ⟨#[]⟩)]) 32 rfl Tryd.underlying27 info26 rfl (by decide) (by omega) u5 x5_1 (⟨wrap64 (1 + (Int.tmod (wrap64 ((Int.tmod ((rd_T26 l0 x6_1).f0) 3) + 3)) 3)), 0, t108⟩ : S26) [.int .i64 (wrap64 (1 + (Int.tmod (wrap64 ((Int.tmod ((rd_T26 l0 x6_1).f0) 3) + 3)) 3))), .int .i64 0, .string t108] (fun k_ => k_ ≠ gb105) (fun _ => False) rfl (by first | (go_simp; done) | (go_simp; rfl)) ?aP (fun _ hk => hk.elim) ?aF ?aO ?aB ?aS ?aL ?_; (case aP => exact k26_mkM _ _ _ (⟨wrap64 (1 + (Int.tmod (wrap64 ((Int.tmod ((rd_T26 l0 x6_1).f0) 3) + 3)) 3)), 0, t108⟩ : S26)); (case aB => exact (zB HB)); (case aF => exact (fun k_ hk => Kd.freshB (g := gb105) (o := .cells #[.int .i64 (wrap64 (1 + (Int.tmod (wrap64 ((Int.tmod ((rd_T26 l0 x6_1).f0) 3) + 3)) 3))), .int .i64 0, .string t108] 26 (0, 0)) (zP BK105) k_ hk)); (case aO => exact (by (with_reducible repeat (first | apply R_alloc | apply R_drewN | apply R_drew)); exact R_mono (R_far (p := ⟨gb105, 2, none⟩) (R_mono HO_5.out (fun k_ hk => (⟨hk, hk⟩ : _ ∧ k_ ≠ gb105))) (fun _ hk => hk.2) (.string t108)) (fun _ hk => hk.1))); (case aS => exact (below_size (zB HB))); (case aL => have := LMc15.out; omega); intro v110 w23 ho hb hg hat; rw [← Ny109.out] at ho; replace BK105 := Am (blk_grown (g := gb105) (o := .cells #[.int .i64 (wrap64 (1 + (Int.tmod (wrap64 ((Int.tmod ((rd_T26 l0 x6_1).f0) 3) + 3)) 3))), .int .i64 0, .string t108] 26 (0, 0)) (zP BK105) hg (R_away HO_5.out (fun _ hk => hk)));replace HB := Am (hb);have HO111 := Am (ho);clear HO_5; clear ho hb hg hat))
            go_roundg kj4
            case measure => have := HK1.out; have := HJ4.out; omega
            case rel => exact ⟨(x1_1), (y109), (wrap64 (x6_1 + 1)), zG, zG, H', ⟨by have := HK1.out; have := HJ4.out; omega⟩, ⟨by (with_reducible repeat (first | apply R_alloc | apply R_drewN | apply R_drew)); exact R_mono HO111.out (fun _ hk => trivial)⟩, ⟨(zB HB)⟩⟩
           ·rw [if_neg c15] at H;exact absurd H (by simp)
          ·rw [if_neg c13] at H;exact absurd H (by simp)
         ·rw [if_neg c12] at H;exact absurd H (by simp)
        ·rw [if_neg c10] at H;have c10b0 : ((wrap64 (1 + (Int.tmod (wrap64 ((Int.tmod ((rd_T26 l0 x6_1).f0) 3) + 3)) 3))) == 2) = false := beq_eq_false_iff_ne.mpr c10
         have c10b1 : ((wrap64 (1 + (Int.tmod (wrap64 ((Int.tmod ((rd_T26 l0 x6_1).f0) 3) + 3)) 3))) != 2) = true := bne_iff_ne.mpr c10
         obtain ⟨ji24, hji24⟩ : ∃ j_ : Int, (mn (Int.tmod (wrap64 ((Int.tmod ((rd_T26 l0 x6_1).f1) 7) + 7)) 7) x1_1) = j_ := ⟨_, rfl⟩
         replace H : (if x5_1.length < 4398046511104 then (epitomeref04_Fit.l0 kj4 l0 (wrap64 (x1_1 - (ji24))) (x5_1 ++ [(⟨wrap64 (1 + (Int.tmod (wrap64 ((Int.tmod ((rd_T26 l0 x6_1).f0) 3) + 3)) 3)), ji24, (⟨#[]⟩ : ByteArray)⟩ : S26)]) (wrap64 (x6_1 + 1))) else (none)) = some r := by first | (rw [hji24] at H; exact H) | (simp only [hji24] at H ⊢; exact H)
         have hji24_ : (if x1_1 < (Int.tmod (wrap64 ((Int.tmod ((rd_T26 l0 x6_1).f1) 7) + 7)) 7) then x1_1 else (Int.tmod (wrap64 ((Int.tmod ((rd_T26 l0 x6_1).f1) 7) + 7)) 7)) = ji24 := hji24
         by_cases c25 : x5_1.length < 4398046511104
         ·rw [if_pos c25] at H;have LMc25 := Am c25;clear c25;obtain ⟨y113, hy113⟩ : ∃ y_ : List (S26), y_ = (x5_1 ++ [(⟨wrap64 (1 + (Int.tmod (wrap64 ((Int.tmod ((rd_T26 l0 x6_1).f0) 3) + 3)) 3)), ji24, (⟨#[]⟩ : ByteArray)⟩ : S26)]) := ⟨_, rfl⟩
          replace H : (epitomeref04_Fit.l0 kj4 l0 (wrap64 (x1_1 - (ji24))) y113 (wrap64 (x6_1 + 1))) = some r := by first | (rw [hy113]; with_reducible exact H) | (have H2_ := (Option.bind_some _ _).symm.trans H; rw [hy113]; with_reducible exact H2_) | (have H2_ := (Option.bind_some _ _).symm.trans H; with_reducible exact H2_) | with_reducible exact H | (rw [hy113]; exact H) | exact H
          have Ny113 := Am hy113;clear hy113;have H' := Am H
          clear H;have p104 : 0 ≤ (x6_1 : Int) := of_decide_eq_true (by assumption)
          have q104 : x6_1 < (l0.length : Int) := of_decide_eq_true (by assumption)
          obtain ⟨ad104, e104, hx104_0, hx104_1, hx104_2⟩ := at_T26 HR0.out x6_1 p104 q104
          cases e104
          replace hx104_0 := (HB.out.cell (World.block_lt_of_cell? w _ hx104_0)).trans hx104_0
          replace hx104_1 := (HB.out.cell (World.block_lt_of_cell? w _ hx104_1)).trans hx104_1
          replace hx104_2 := (HB.out.cell (World.block_lt_of_cell? w _ hx104_2)).trans hx104_2
          replace p104 := eq_true p104;replace q104 := eq_true q104;go_wp2_with (first | ((with_reducible refine gate_dst (N := 7) rfl ?_); refine box_event ?hg (N := 7) ?hd (cs := #[.int .i64 0, .int .i64 0, .string (⟨#[]⟩ : ByteArray)]) (t := 26) ?hr ?_; (case hd => rfl); (case hg => rfl); (case hr => first | (go_simp; done) | (go_simp; rfl)); intro gb105 hg w26 hbox hb; replace HO_5 := Am (R_below (R_elderB (zR HO_5) gb105 (Nat.le_of_eq hg.symm)) hb);have BK105 := Am (hbox);have GW105 := Am (zO (w := w) HB hg);have GE105 := Am (zO (w := w) HB hg);replace HB := Am (below_step (zB HB) hb); clear hb hbox hg; obtain ⟨hcz27_0, hcz27_1, hcz27_2, hfz27_0, hfz27_1, hfz27_2⟩ := zc3 BK105; have p112 : 0 ≤ (x6_1 : Int) := of_decide_eq_true (by assumption); have q112 : x6_1 < (l0.length : Int) := of_decide_eq_true (by assumption); obtain ⟨ad112, e112, hx112_0, hx112_1, hx112_2⟩ := at_T26 HR0.out x6_1 p112 q112; obtain rfl : ad104 = ad112 := (by injection e112); have hn112_0 : ad104.block ≠ gb105 := Nat.ne_of_lt (Nat.lt_of_lt_of_le (by have := World.block_lt_of_cell? _ _ hx112_0; first | rwa [add_block] at this | exact this) GW105.out); have hn112_1 : ad104.block ≠ gb105 := Nat.ne_of_lt (Nat.lt_of_lt_of_le (by have := World.block_lt_of_cell? _ _ hx112_0; first | rwa [add_block] at this | exact this) GW105.out); have hn112_2 : ad104.block ≠ gb105 := Nat.ne_of_lt (Nat.lt_of_lt_of_le (by have := World.block_lt_of_cell? _ _ hx112_0; first | rwa [add_block] at this | exact this) GW105.out); replace hx112_0 := (HB.out.cell (World.block_lt_of_cell? w _ hx112_0)).trans hx112_0; replace hx112_1 := (HB.out.cell (World.block_lt_of_cell? w _ hx112_1)).trans hx112_1; replace hx112_2 := (HB.out.cell (World.block_lt_of_cell? w _ hx112_2)).trans hx112_2; replace hx112_0 := (cell_far (p := ⟨gb105, 0, none⟩) (zN hn112_0) (.int .i64 (wrap64 (1 + (Int.tmod (wrap64 ((Int.tmod ((rd_T26 l0 x6_1).f0) 3) + 3)) 3))))).trans hx112_0; replace hx112_1 := (cell_far (p := ⟨gb105, 0, none⟩) (zN hn112_0) (.int .i64 (wrap64 (1 + (Int.tmod (wrap64 ((Int.tmod ((rd_T26 l0 x6_1).f0) 3) + 3)) 3))))).trans hx112_1; replace hx112_2 := (cell_far (p := ⟨gb105, 0, none⟩) (zN hn112_0) (.int .i64 (wrap64 (1 + (Int.tmod (wrap64 ((Int.tmod ((rd_T26 l0 x6_1).f0) 3) + 3)) 3))))).trans hx112_2; replace hx112_0 := (cell_far (p := ⟨gb105, 1, none⟩) (zN hn112_1) (.int .i64 0)).trans hx112_0; replace hx112_1 := (cell_far (p := ⟨gb105, 1, none⟩) (zN hn112_1) (.int .i64 0)).trans hx112_1; replace hx112_2 := (cell_far (p := ⟨gb105, 1, none⟩) (zN hn112_1) (.int .i64 0)).trans hx112_2; replace hx112_0 := (cell_far (p := ⟨gb105, 2, none⟩) (zN hn112_2) (.string (⟨#[]⟩ : ByteArray))).trans hx112_0; replace hx112_1 := (cell_far (p := ⟨gb105, 2, none⟩) (zN hn112_2) (.string (⟨#[]⟩ : ByteArray))).trans hx112_1; replace hx112_2 := (cell_far (p := ⟨gb105, 2, none⟩) (zN hn112_2) (.string (⟨#[]⟩ : ByteArray))).trans hx112_2; clear hn112_0; clear hn112_1; clear hn112_2; replace p112 := eq_true p112; replace q112 := eq_true q112) | ((with_reducible refine gate_builtin (b := .append) (xs := #[.tmp 62, .tmp 64]) rfl ?_); at_builtin; refine R_append k26 (w0 := w) w.heap.size rfl (.tmp 62) (.tmp 64) 27 26 (.agg #[(.int .i64 0), (.int .i64 0), (.string ⟨#[]⟩)]) 32 rfl Tryd.underlying27 info26 rfl (by decide) (by omega) u5 x5_1 (⟨wrap64 (1 + (Int.tmod (wrap64 ((Int.tmod ((rd_T26 l0 x6_1).f0) 3) + 3)) 3)), ji24, (⟨#[]⟩ : ByteArray)⟩ : S26) [.int .i64 (wrap64 (1 + (Int.tmod (wrap64 ((Int.tmod ((rd_T26 l0 x6_1).f0) 3) + 3)) 3))), .int .i64 ji24, .string (⟨#[]⟩ : ByteArray)] (fun k_ => k_ ≠ gb105) (fun _ => False) rfl (by first | (go_simp; done) | (go_simp; rfl)) ?aP (fun _ hk => hk.elim) ?aF ?aO ?aB ?aS ?aL ?_; (case aP => exact k26_mkM _ _ _ (⟨wrap64 (1 + (Int.tmod (wrap64 ((Int.tmod ((rd_T26 l0 x6_1).f0) 3) + 3)) 3)), ji24, (⟨#[]⟩ : ByteArray)⟩ : S26)); (case aB => exact (zB HB)); (case aF => exact (fun k_ hk => Kd.freshB (g := gb105) (o := .cells #[.int .i64 (wrap64 (1 + (Int.tmod (wrap64 ((Int.tmod ((rd_T26 l0 x6_1).f0) 3) + 3)) 3))), .int .i64 ji24, .string (⟨#[]⟩ : ByteArray)] 26 (0, 0)) (zP BK105) k_ hk)); (case aO => exact (by (with_reducible repeat (first | apply R_alloc | apply R_drewN | apply R_drew)); exact R_mono (R_far (p := ⟨gb105, 1, none⟩) (zY (R_mono HO_5.out (fun k_ hk => (⟨hk, hk.2⟩ : _ ∧ k_ ≠ gb105))) gb105 (fun _ hk => hk.2) (.int .i64 (wrap64 (1 + (Int.tmod (wrap64 ((Int.tmod ((rd_T26 l0 x6_1).f0) 3) + 3)) 3)))) (.int .i64 0) (.string (⟨#[]⟩ : ByteArray))) (fun _ hk => hk.2) (.int .i64 ji24)) (fun _ hk => hk.1.2))); (case aS => exact (below_size (zB HB))); (case aL => have := LMc25.out; omega); intro v114 w28 ho hb hg hat; rw [← Ny113.out] at ho; replace BK105 := Am (blk_grown (g := gb105) (o := .cells #[.int .i64 (wrap64 (1 + (Int.tmod (wrap64 ((Int.tmod ((rd_T26 l0 x6_1).f0) 3) + 3)) 3))), .int .i64 ji24, .string (⟨#[]⟩ : ByteArray)] 26 (0, 0)) (zP BK105) hg (R_away HO_5.out (fun _ hk => hk.2)));replace HB := Am (hb);have HO115 := Am (ho);clear HO_5; clear ho hb hg hat))
          go_roundg kj4
          case measure => have := HK1.out; have := HJ4.out; omega
          case rel => exact ⟨(wrap64 (x1_1 - (ji24))), (y113), (wrap64 (x6_1 + 1)), (by first | rfl | (simp; done) | (simp only [← hji24] <;> (first | rfl | simp)) | (simp [*]; done)), zG, H', ⟨by have := HK1.out; have := HJ4.out; omega⟩, ⟨by (with_reducible repeat (first | apply R_alloc | apply R_drewN | apply R_drew)); exact R_mono HO115.out (fun _ hk => trivial)⟩, ⟨(zB HB)⟩⟩
         ·rw [if_neg c25] at H;exact absurd H (by simp)
       ·rw [if_neg c9] at H;exact absurd H (by simp)
      ·rw [if_neg c8] at H;exact absurd H (by simp)
     ·replace c7 := Bool.eq_false_iff.mpr c7
      subst c7
      have H1 : (if x1_1 > 0 then (if x5_1.length < 4398046511104 then (some (x5_1 ++ [(⟨1, x1_1, (⟨#[]⟩ : ByteArray)⟩ : S26)])) else (none)) else (some x5_1)) = some r := by rw [if_neg (show ¬ (false = true) by decide)] at H; exact H
      clear H;have H := H1
      clear H1;by_cases c29 : x1_1 > 0
      ·rw [if_pos c29] at H;have c29b0 : decide (0 < x1_1) = true := decide_eq_true c29
       clear c29;by_cases c30 : x5_1.length < 4398046511104
       ·rw [if_pos c30] at H;have LMc30 := Am c30;clear c30;obtain ⟨y116, hy116⟩ : ∃ y_ : List (S26), y_ = (x5_1 ++ [(⟨1, x1_1, (⟨#[]⟩ : ByteArray)⟩ : S26)]) := ⟨_, rfl⟩
        replace H : (some y116) = some r := by first | (rw [hy116]; with_reducible exact H) | (have H2_ := (Option.bind_some _ _).symm.trans H; rw [hy116]; with_reducible exact H2_) | (have H2_ := (Option.bind_some _ _).symm.trans H; with_reducible exact H2_) | with_reducible exact H | (rw [hy116]; exact H) | exact H
        have Ny116 := Am hy116;clear hy116;obtain rfl := Option.some.inj H;go_wp2_with (first | ((with_reducible refine gate_builtin (b := .append) (xs := #[.tmp 68, .tmp 71]) rfl ?_); at_builtin; refine R_append k26 (w0 := w) w.heap.size rfl (.tmp 68) (.tmp 71) 27 26 (.agg #[(.int .i64 0), (.int .i64 0), (.string ⟨#[]⟩)]) 32 rfl Tryd.underlying27 info26 rfl (by decide) (by omega) u5 x5_1 (⟨1, x1_1, (⟨#[]⟩ : ByteArray)⟩ : S26) [.int .i64 1, .int .i64 x1_1, .string (⟨#[]⟩ : ByteArray)] (fun _ => True) (fun _ => False) rfl rfl ?aP (fun _ hk => hk.elim) ?aF ?aO ?aB ?aS ?aL ?_; (case aP => exact k26_mkM _ _ _ (⟨1, x1_1, (⟨#[]⟩ : ByteArray)⟩ : S26)); (case aB => exact (zB HB)); (case aF => exact (fun _ _ => trivial)); (case aO => exact (zR HO_5)); (case aS => exact (below_size (zB HB))); (case aL => have := LMc30.out; omega); intro v117 w31 ho hb hg hat; rw [← Ny116.out] at ho; replace HB := Am (hb);have HO118 := Am (ho);clear HO_5; clear ho hb hg hat))
        go_ret
        exact ⟨_, zF, (zR HO118), (zB HB)⟩
       ·rw [if_neg c30] at H;exact absurd H (by simp)
      ·rw [if_neg c29] at H;have c29b0 : decide (0 < x1_1) = false := decide_eq_false c29
       clear c29;obtain rfl := Option.some.inj H;go_wp2
       go_ret
       exact ⟨_, zF, (zR HO_5), (zB HB)⟩
end Go.Proofs.YtkefbljogjcodaaDoor.F
end
section
namespace Go.Proofs.YtkefbljogjcodaaDoor.F
open Go.RowKit Go.Proofs.YtkefbljogjcodaaDoorW.PrintWords Go.Proofs.YtkefbljogjcodaaDoorW.PrintLast Go.Proofs.YtkefbljogjcodaaDoorW.PrintMore
attribute [local go_sem] max2_int min2_int max_two min_two max_three min_three max_four min_four cell_setCell_isSome
set_option linter.unusedVariables false
set_option linter.unusedSimpArgs false
open Kd
mutual
def epitomeref06_Same.j0 : Nat → Bool → List ByteArray → List Bool → List ByteArray → List Bool → Option (Bool)
  | 0, _, _, _, _, _ => none
  | k + 1, x22, x102000, x102001, x103000, x103001 => if x22 = true then (some false) else (epitomeref06_Same.l0 k 0 x102000 x102001 x103000 x103001)
def epitomeref06_Same.l0 : Nat → Int → List ByteArray → List Bool → List ByteArray → List Bool → Option (Bool)
  | 0, _, _, _, _, _ => none
  | k + 1, x5, x102000, x102001, x103000, x103001 => if x5 < (x102000.length : Int) then (if 0 ≤ x5 then (if x5 < (x103000.length : Int) then (if (rdOf ByteArray.empty x102000 x5).toList = (rdOf ByteArray.empty x103000 x5).toList then (epitomeref06_Same.l0 k (wrap64 (x5 + 1)) x102000 x102001 x103000 x103001) else (some false)) else (none)) else (none)) else (epitomeref06_Same.l1 k 0 x102000 x102001 x103000 x103001)
def epitomeref06_Same.l1 : Nat → Int → List ByteArray → List Bool → List ByteArray → List Bool → Option (Bool)
  | 0, _, _, _, _, _ => none
  | k + 1, x6, x102000, x102001, x103000, x103001 => if x6 < (x102001.length : Int) then (if 0 ≤ x6 then (if x6 < (x103001.length : Int) then (if ((rdOf false x102001 x6) != (rdOf false x103001 x6)) = true then (some false) else (epitomeref06_Same.l1 k (wrap64 (x6 + 1)) x102000 x102001 x103000 x103001)) else (none)) else (none)) else (some true)
end
def epitomeref06_Same.f (k : Nat) (l0_0 : List ByteArray) (l0_1 : List Bool) (l1_0 : List ByteArray) (l1_1 : List Bool) : Option (Bool) := if (l0_0.length : Int) = (l1_0.length : Int) then (epitomeref06_Same.j0 k ((l0_1.length : Int) != (l1_1.length : Int)) l0_0 l0_1 l1_0 l1_1) else (epitomeref06_Same.j0 k true l0_0 l0_1 l1_0 l1_1)
theorem epitomeref06_Same.mono_l : ∀ k, (∀ y0 y1 y2 y3 y4, LeO (epitomeref06_Same.j0 k y0 y1 y2 y3 y4) (epitomeref06_Same.j0 (k + 1) y0 y1 y2 y3 y4)) ∧ (∀ y0 y1 y2 y3 y4, LeO (epitomeref06_Same.l0 k y0 y1 y2 y3 y4) (epitomeref06_Same.l0 (k + 1) y0 y1 y2 y3 y4)) ∧ (∀ y0 y1 y2 y3 y4, LeO (epitomeref06_Same.l1 k y0 y1 y2 y3 y4) (epitomeref06_Same.l1 (k + 1) y0 y1 y2 y3 y4))
  | 0 => ⟨fun _ _ _ _ _ r h => by simp [epitomeref06_Same.j0] at h, fun _ _ _ _ _ r h => by simp [epitomeref06_Same.l0] at h, fun _ _ _ _ _ r h => by simp [epitomeref06_Same.l1] at h⟩
  | k + 1 => by
    obtain ⟨ih0, ih1, ih2⟩ := epitomeref06_Same.mono_l k
    refine ⟨?_, ?_, ?_⟩
    · intro y0 y1 y2 y3 y4
      unfold epitomeref06_Same.j0
      repeat' first
      | (with_reducible exact ih0 _ _ _ _ _)
      | (with_reducible exact ih1 _ _ _ _ _)
      | (with_reducible exact ih2 _ _ _ _ _)
      | (with_reducible exact LeO.refl _)
      | (with_reducible exact LeO.none _)
      | (with_reducible refine LeO.ite ?_ ?_)
      | (with_reducible refine LeO.bind ?_ (fun _ => ?_))
      | exact ih0 _ _ _ _ _
      | exact ih1 _ _ _ _ _
      | exact ih2 _ _ _ _ _
      | exact LeO.none _
      | refine LeO.ite ?_ ?_
      | refine LeO.bind ?_ (fun _ => ?_)
    · intro y0 y1 y2 y3 y4
      unfold epitomeref06_Same.l0
      repeat' first
      | (with_reducible exact ih0 _ _ _ _ _)
      | (with_reducible exact ih1 _ _ _ _ _)
      | (with_reducible exact ih2 _ _ _ _ _)
      | (with_reducible exact LeO.refl _)
      | (with_reducible exact LeO.none _)
      | (with_reducible refine LeO.ite ?_ ?_)
      | (with_reducible refine LeO.bind ?_ (fun _ => ?_))
      | exact ih0 _ _ _ _ _
      | exact ih1 _ _ _ _ _
      | exact ih2 _ _ _ _ _
      | exact LeO.none _
      | refine LeO.ite ?_ ?_
      | refine LeO.bind ?_ (fun _ => ?_)
    · intro y0 y1 y2 y3 y4
      unfold epitomeref06_Same.l1
      repeat' first
      | (with_reducible exact ih0 _ _ _ _ _)
      | (with_reducible exact ih1 _ _ _ _ _)
      | (with_reducible exact ih2 _ _ _ _ _)
      | (with_reducible exact LeO.refl _)
      | (with_reducible exact LeO.none _)
      | (with_reducible refine LeO.ite ?_ ?_)
      | (with_reducible refine LeO.bind ?_ (fun _ => ?_))
      | exact ih0 _ _ _ _ _
      | exact ih1 _ _ _ _ _
      | exact ih2 _ _ _ _ _
      | exact LeO.none _
      | refine LeO.ite ?_ ?_
      | refine LeO.bind ?_ (fun _ => ?_)
theorem epitomeref06_Same.mono : ∀ a0 a1 a2 a3 k, LeO (epitomeref06_Same.f k a0 a1 a2 a3) (epitomeref06_Same.f (k + 1) a0 a1 a2 a3) := by
  intro a0 a1 a2 a3 k
  obtain ⟨ih0, ih1, ih2⟩ := epitomeref06_Same.mono_l k
  unfold epitomeref06_Same.f
  repeat' first
      | (with_reducible exact ih0 _ _ _ _ _)
      | (with_reducible exact ih1 _ _ _ _ _)
      | (with_reducible exact ih2 _ _ _ _ _)
      | (with_reducible exact LeO.refl _)
      | (with_reducible exact LeO.none _)
      | (with_reducible refine LeO.ite ?_ ?_)
      | (with_reducible refine LeO.bind ?_ (fun _ => ?_))
      | exact ih0 _ _ _ _ _
      | exact ih1 _ _ _ _ _
      | exact ih2 _ _ _ _ _
      | exact LeO.none _
      | refine LeO.ite ?_ ?_
      | refine LeO.bind ?_ (fun _ => ?_)
set_option maxHeartbeats 40000000 in
set_option maxRecDepth 100000 in
theorem epitomeref06_Same.calls (k : Nat) (A0_0 : Option Addr) (c0_0 : Nat) (l0_0 : List ByteArray) (A0_1 : Option Addr) (c0_1 : Nat) (l0_1 : List Bool) (A1_0 : Option Addr) (c1_0 : Nat) (l1_0 : List ByteArray) (A1_1 : Option Addr) (c1_1 : Nat) (l1_1 : List Bool) (r : Bool) (w : World) (hr0_0 : Kd.C Kd.string w A0_0 l0_0.length l0_0) (hc0_0 : l0_0.length ≤ c0_0) (hr0_1 : Kd.C Kd.bool w A0_1 l0_1.length l0_1) (hc0_1 : l0_1.length ≤ c0_1) (hr1_0 : Kd.C Kd.string w A1_0 l1_0.length l1_0) (hc1_0 : l1_0.length ≤ c1_0) (hr1_1 : Kd.C Kd.bool w A1_1 l1_1.length l1_1) (hc1_1 : l1_1.length ≤ c1_1) (h : epitomeref06_Same.f k l0_0 l0_1 l1_0 l1_1 = some r) :
  Calls Tryd.prog 34 #[.agg #[.slice A0_0 l0_0.length c0_0, .slice A0_1 l0_1.length c0_1], .agg #[.slice A1_0 l1_0.length c1_0, .slice A1_1 l1_1.length c1_1]] w fun e w' => e = .returned (.bool r) ∧ Below w.heap.size w w' := by
 have hu49 := Tryd.underlying49
 have HR0_0 := Am hr0_0;have HC0_0 := Am hc0_0;clear hr0_0 hc0_0;have HR0_1 := Am hr0_1;have HC0_1 := Am hc0_1;clear hr0_1 hc0_1;have HR1_0 := Am hr1_0;have HC1_0 := Am hc1_0;clear hr1_0 hc1_0;have HR1_1 := Am hr1_1;have HC1_1 := Am hc1_1;clear hr1_1 hc1_1;have HB := Am (Below.refl w.heap.size w)
 have H : (if (l0_0.length : Int) = (l1_0.length : Int) then (epitomeref06_Same.j0 k ((l0_1.length : Int) != (l1_1.length : Int)) l0_0 l0_1 l1_0 l1_1) else (epitomeref06_Same.j0 k true l0_0 l0_1 l1_0 l1_1)) = some r := h
 clear h;have HC3 := Am H;clear H;go_enter Tryd.func34, Tryd.ntmps34
 go_upto_region 1 with (first | ((with_reducible refine gate_dst (N := 2) rfl ?_); (try (refine gate_guard (by rfl) ?_; dsimp only)); refine box_event ?hg (N := 2) ?hd (cs := #[.slice A0_0 l0_0.length c0_0, .slice A0_1 l0_1.length c0_1]) (t := 49) ?hr ?_; (case hd => rfl); (case hg => rfl); (case hr => first | (go_simp; done) | (go_simp; rfl)); intro gb101 hg w4 hbox hb; have BK101 := Am (hbox);have GW101 := Am (zO (w := w) HB hg);have GE101 := Am (zO (w := w) HB hg);replace HB := Am (below_step (zB HB) hb); clear hb hbox hg) | ((with_reducible refine gate_dst (N := 3) rfl ?_); (try (refine gate_guard (by rfl) ?_; dsimp only)); refine box_event ?hg (N := 3) ?hd (cs := #[.slice A1_0 l1_0.length c1_0, .slice A1_1 l1_1.length c1_1]) (t := 49) ?hr ?_; (case hd => rfl); (case hg => rfl); (case hr => first | (go_simp; done) | (go_simp; rfl)); intro gb102 hg w5 hbox hb; have BK102 := Am (hbox);have GW102 := Am (zO (w := w) HB hg);have GE102 := Am (zO (w := w) HB hg);replace HB := Am (below_step (zB HB) hb);have NB101_102 := Am ((by rw [hg]; exact Nat.ne_of_lt (zL BK101) : gb101 ≠ gb102));have NB102_101 := Am ((by rw [hg]; exact Nat.ne_of_gt (zL BK101) : gb102 ≠ gb101));replace BK101 := Am (zU BK101 hb); clear hb hbox hg))
 repeat (go_quiet (first | ((with_reducible refine gate_dst (N := 2) rfl ?_); (try (refine gate_guard (by rfl) ?_; dsimp only)); refine box_event ?hg (N := 2) ?hd (cs := #[.slice A0_0 l0_0.length c0_0, .slice A0_1 l0_1.length c0_1]) (t := 49) ?hr ?_; (case hd => rfl); (case hg => rfl); (case hr => first | (go_simp; done) | (go_simp; rfl)); intro gb101 hg w4 hbox hb; have BK101 := Am (hbox);have GW101 := Am (zO (w := w) HB hg);have GE101 := Am (zO (w := w) HB hg);replace HB := Am (below_step (zB HB) hb); clear hb hbox hg) | ((with_reducible refine gate_dst (N := 3) rfl ?_); (try (refine gate_guard (by rfl) ?_; dsimp only)); refine box_event ?hg (N := 3) ?hd (cs := #[.slice A1_0 l1_0.length c1_0, .slice A1_1 l1_1.length c1_1]) (t := 49) ?hr ?_; (case hd => rfl); (case hg => rfl); (case hr => first | (go_simp; done) | (go_simp; rfl)); intro gb102 hg w5 hbox hb; have BK102 := Am (hbox);have GW102 := Am (zO (w := w) HB hg);have GE102 := Am (zO (w := w) HB hg);replace HB := Am (below_step (zB HB) hb);have NB101_102 := Am ((by rw [hg]; exact Nat.ne_of_lt (zL BK101) : gb101 ≠ gb102));have NB102_101 := Am ((by rw [hg]; exact Nat.ne_of_gt (zL BK101) : gb102 ≠ gb101));replace BK101 := Am (zU BK101 hb); clear hb hbox hg)); go_upto_region 1 with (first | ((with_reducible refine gate_dst (N := 2) rfl ?_); (try (refine gate_guard (by rfl) ?_; dsimp only)); refine box_event ?hg (N := 2) ?hd (cs := #[.slice A0_0 l0_0.length c0_0, .slice A0_1 l0_1.length c0_1]) (t := 49) ?hr ?_; (case hd => rfl); (case hg => rfl); (case hr => first | (go_simp; done) | (go_simp; rfl)); intro gb101 hg w4 hbox hb; have BK101 := Am (hbox);have GW101 := Am (zO (w := w) HB hg);have GE101 := Am (zO (w := w) HB hg);replace HB := Am (below_step (zB HB) hb); clear hb hbox hg) | ((with_reducible refine gate_dst (N := 3) rfl ?_); (try (refine gate_guard (by rfl) ?_; dsimp only)); refine box_event ?hg (N := 3) ?hd (cs := #[.slice A1_0 l1_0.length c1_0, .slice A1_1 l1_1.length c1_1]) (t := 49) ?hr ?_; (case hd => rfl); (case hg => rfl); (case hr => first | (go_simp; done) | (go_simp; rfl)); intro gb102 hg w5 hbox hb; have BK102 := Am (hbox);have GW102 := Am (zO (w := w) HB hg);have GE102 := Am (zO (w := w) HB hg);replace HB := Am (below_step (zB HB) hb);have NB101_102 := Am ((by rw [hg]; exact Nat.ne_of_lt (zL BK101) : gb101 ≠ gb102));have NB102_101 := Am ((by rw [hg]; exact Nat.ne_of_gt (zL BK101) : gb102 ≠ gb101));replace BK101 := Am (zU BK101 hb); clear hb hbox hg)))
 (try simp only [Act.put, zS])
 go_cut [22] (fun v22 wc => ∃ (kq : Nat) (x22_2 : Bool), v22 = .bool x22_2 ∧ Aside0 (epitomeref06_Same.j0 kq x22_2 l0_0 l0_1 l1_0 l1_1 = some r) ∧ Aside0 (kq ≤ k) ∧ Aside0 (wc.heap[gb101]? = some (.cells #[(.slice A0_0 l0_0.length c0_0), (.slice A0_1 l0_1.length c0_1)] 49 (0, 0))) ∧ Aside0 (wc.heap[gb102]? = some (.cells #[(.slice A1_0 l1_0.length c1_0), (.slice A1_1 l1_1.length c1_1)] 49 (0, 0))) ∧ Aside0 (Below w.heap.size w wc))
 case first =>
  have H := HC3.out;clear HC3;by_cases c6 : (l0_0.length : Int) = (l1_0.length : Int)
  ·rw [if_pos c6] at H;have c6b0 : ((l0_0.length : Int) == (l1_0.length : Int)) = true := beq_iff_eq.mpr c6
   have c6b1 : ((l0_0.length : Int) != (l1_0.length : Int)) = false := bne_eq_false_iff_eq.mpr c6
   have c6b2 : (l0_0.length == l1_0.length) = true := by first | simpa using c6 | (simp at c6 ⊢; omega)
   clear c6;(first | rw [c6b0] | (simp only [i64_w, i32_w]; rw [c6b0]) | skip)
   have H' := Am H
   clear H;have hnb7 := NB101_102.out;have hnc7 := NB102_101.out;obtain ⟨hcz8_0, hcz8_1, hfz8_0, hfz8_1⟩ := zc2 BK101;obtain ⟨hcz9_0, hcz9_1, hfz9_0, hfz9_1⟩ := zc2 BK102;go_wp2
   repeat (go_quiet (fail); try go_wp2)
   go_meet
   case rel => exact ⟨_, (((l0_1.length : Int) != (l1_1.length : Int))), zG, H', ⟨by first | omega | exact Nat.le_refl _⟩, ⟨(zK BK101)⟩, ⟨(zK BK102)⟩, ⟨(zB HB)⟩⟩
  ·rw [if_neg c6] at H;have c6b0 : ((l0_0.length : Int) == (l1_0.length : Int)) = false := beq_eq_false_iff_ne.mpr c6
   have c6b1 : ((l0_0.length : Int) != (l1_0.length : Int)) = true := bne_iff_ne.mpr c6
   have c6b2 : (l0_0.length == l1_0.length) = false := by first | simpa using c6 | (simp at c6 ⊢; omega)
   (first | rw [c6b0] | (simp only [i64_w, i32_w]; rw [c6b0]) | skip)
   have H' := Am H
   clear H;have hnb10 := NB101_102.out;have hnc10 := NB102_101.out;obtain ⟨hcz11_0, hcz11_1, hfz11_0, hfz11_1⟩ := zc2 BK101;obtain ⟨hcz12_0, hcz12_1, hfz12_0, hfz12_1⟩ := zc2 BK102;go_wp2
   repeat (go_quiet (fail); try go_wp2)
   go_meet
   case rel => exact ⟨_, (true), zG, H', ⟨by first | omega | exact Nat.le_refl _⟩, ⟨(zK BK101)⟩, ⟨(zK BK102)⟩, ⟨(zB HB)⟩⟩
 case rest =>
  clear HC3;(try clear c1);(try clear p2);(try clear c3);(try clear c6);(try clear c6b0);(try clear c6b1);(try clear c6b2);(try clear c7);(try clear c10);(try clear hcz11_0);(try clear hcz11_1);(try clear hcz12_0);(try clear hcz12_1);(try clear hcz8_0);(try clear hcz8_1);(try clear hcz9_0);(try clear hcz9_1);(try clear hfz11_0);(try clear hfz11_1);(try clear hfz12_0);(try clear hfz12_1);(try clear hfz8_0);(try clear hfz8_1);(try clear hfz9_0);(try clear hfz9_1);obtain ⟨kq, x22_2, rfl, HA, HJ2, BK101, BK102, HB⟩ := hcut
  cases kq with
  | zero => exact absurd HA.out (by simp [epitomeref06_Same.j0])
  | succ kj2 =>
   have H := HA.out;clear HA;simp only [epitomeref06_Same.j0] at H
   by_cases c13 : x22_2 = true
   ·subst c13
    have H1 : (some false) = some r := by rw [if_pos rfl] at H; exact H
    clear H;have H := H1
    clear H1;obtain rfl := Option.some.inj H;go_wp2
    repeat (go_quiet (fail); try go_wp2)
    go_ret
    exact ⟨zF, (zB HB)⟩
   ·replace c13 := Bool.eq_false_iff.mpr c13
    subst c13
    have H1 : (epitomeref06_Same.l0 kj2 0 l0_0 l0_1 l1_0 l1_1) = some r := by rw [if_neg (show ¬ (false = true) by decide)] at H; exact H
    clear H;have H := H1
    clear H1;have H' := Am H
    clear H;go_wp2
    repeat (go_quiet (fail); try go_wp2)
    go_loopg [5] kj2 (fun kq v5 w' => ∃ (x5_2 : Int), v5 = .int .i64 x5_2 ∧ Aside0 (epitomeref06_Same.l0 kq x5_2 l0_0 l0_1 l1_0 l1_1 = some r) ∧ Aside0 (kq ≤ kj2) ∧ Aside0 (w'.heap[gb101]? = some (.cells #[(.slice A0_0 l0_0.length c0_0), (.slice A0_1 l0_1.length c0_1)] 49 (0, 0))) ∧ Aside0 (w'.heap[gb102]? = some (.cells #[(.slice A1_0 l1_0.length c1_0), (.slice A1_1 l1_1.length c1_1)] 49 (0, 0))) ∧ Aside0 (Below w.heap.size w w'))
    case atStart => exact ⟨(0), zG, H', ⟨Nat.le_refl _⟩, ⟨(zK BK101)⟩, ⟨(zK BK102)⟩, ⟨(zB HB)⟩⟩
    case round =>
     clear H';(try clear c1);(try clear p2);(try clear c3);(try clear c6);(try clear c6b0);(try clear c6b1);(try clear c6b2);(try clear c7);(try clear c10);(try clear c13);(try clear hcz11_0);(try clear hcz11_1);(try clear hcz12_0);(try clear hcz12_1);(try clear hcz8_0);(try clear hcz8_1);(try clear hcz9_0);(try clear hcz9_1);(try clear hfz11_0);(try clear hfz11_1);(try clear hfz12_0);(try clear hfz12_1);(try clear hfz8_0);(try clear hfz8_1);(try clear hfz9_0);(try clear hfz9_1);(try clear p2);obtain ⟨x5_2, rfl, HA, HK2, BK101, BK102, HB⟩ := hrel
     cases gk with
     | zero => exact absurd HA.out (by simp [epitomeref06_Same.l0])
     | succ k2 =>
      have H := HA.out;clear HA;simp only [epitomeref06_Same.l0] at H
      by_cases c14 : x5_2 < (l0_0.length : Int)
      ·rw [if_pos c14] at H;have c14b0 : decide (x5_2 < (l0_0.length : Int)) = true := decide_eq_true c14
       clear c14;by_cases c15 : 0 ≤ x5_2
       ·rw [if_pos c15] at H;have c15b0 : decide (0 ≤ x5_2) = true := decide_eq_true c15
        clear c15;by_cases c16 : x5_2 < (l1_0.length : Int)
        ·rw [if_pos c16] at H;have c16b0 : decide (x5_2 < (l1_0.length : Int)) = true := decide_eq_true c16
         clear c16;by_cases c17 : (rdOf ByteArray.empty l0_0 x5_2).toList = (rdOf ByteArray.empty l1_0 x5_2).toList
         ·rw [if_pos c17] at H;have c17b0 : ((rdOf ByteArray.empty l0_0 x5_2).toList == (rdOf ByteArray.empty l1_0 x5_2).toList) = true := beq_iff_eq.mpr c17
          have c17b1 : ((rdOf ByteArray.empty l0_0 x5_2).toList != (rdOf ByteArray.empty l1_0 x5_2).toList) = false := bne_eq_false_iff_eq.mpr c17
          clear c17;have H' := Am H
          clear H;have hnb18 := NB101_102.out;have hnc18 := NB102_101.out;obtain ⟨hcz19_0, hcz19_1, hfz19_0, hfz19_1⟩ := zc2 BK101;have p103 : 0 ≤ (x5_2 : Int) := of_decide_eq_true (by assumption)
          have q103 : x5_2 < (l0_0.length : Int) := of_decide_eq_true (by assumption)
          obtain ⟨ad103, e103, hx103_0⟩ := Kd.at_string HR0_0.out x5_2 p103 q103
          cases e103
          replace hx103_0 := (HB.out.cell (World.block_lt_of_cell? w _ hx103_0)).trans hx103_0
          replace p103 := eq_true p103;replace q103 := eq_true q103;obtain ⟨hcz20_0, hcz20_1, hfz20_0, hfz20_1⟩ := zc2 BK102;have p104 : 0 ≤ (x5_2 : Int) := of_decide_eq_true (by assumption)
          have q104 : x5_2 < (l1_0.length : Int) := of_decide_eq_true (by assumption)
          obtain ⟨ad104, e104, hx104_0⟩ := Kd.at_string HR1_0.out x5_2 p104 q104
          cases e104
          replace hx104_0 := (HB.out.cell (World.block_lt_of_cell? w _ hx104_0)).trans hx104_0
          replace p104 := eq_true p104;replace q104 := eq_true q104;go_wp2
          repeat (go_quiet (fail); try go_wp2)
          go_roundg k2
          case measure => have := HJ2.out; have := HK2.out; omega
          case rel => exact ⟨(wrap64 (x5_2 + 1)), zG, H', ⟨by have := HJ2.out; have := HK2.out; omega⟩, ⟨(zK BK101)⟩, ⟨(zK BK102)⟩, ⟨(zB HB)⟩⟩
         ·rw [if_neg c17] at H;have c17b0 : ((rdOf ByteArray.empty l0_0 x5_2).toList == (rdOf ByteArray.empty l1_0 x5_2).toList) = false := beq_eq_false_iff_ne.mpr c17
          have c17b1 : ((rdOf ByteArray.empty l0_0 x5_2).toList != (rdOf ByteArray.empty l1_0 x5_2).toList) = true := bne_iff_ne.mpr c17
          obtain rfl := Option.some.inj H;have hnb21 := NB101_102.out;have hnc21 := NB102_101.out;obtain ⟨hcz22_0, hcz22_1, hfz22_0, hfz22_1⟩ := zc2 BK101;have p103 : 0 ≤ (x5_2 : Int) := of_decide_eq_true (by assumption)
          have q103 : x5_2 < (l0_0.length : Int) := of_decide_eq_true (by assumption)
          obtain ⟨ad103, e103, hx103_0⟩ := Kd.at_string HR0_0.out x5_2 p103 q103
          cases e103
          replace hx103_0 := (HB.out.cell (World.block_lt_of_cell? w _ hx103_0)).trans hx103_0
          replace p103 := eq_true p103;replace q103 := eq_true q103;obtain ⟨hcz23_0, hcz23_1, hfz23_0, hfz23_1⟩ := zc2 BK102;have p104 : 0 ≤ (x5_2 : Int) := of_decide_eq_true (by assumption)
          have q104 : x5_2 < (l1_0.length : Int) := of_decide_eq_true (by assumption)
          obtain ⟨ad104, e104, hx104_0⟩ := Kd.at_string HR1_0.out x5_2 p104 q104
          cases e104
          replace hx104_0 := (HB.out.cell (World.block_lt_of_cell? w _ hx104_0)).trans hx104_0
          replace p104 := eq_true p104;replace q104 := eq_true q104;go_wp2
          repeat (go_quiet (fail); try go_wp2)
          go_ret
          exact ⟨zF, (zB HB)⟩
        ·rw [if_neg c16] at H;exact absurd H (by simp)
       ·rw [if_neg c15] at H;exact absurd H (by simp)
      ·rw [if_neg c14] at H;have c14b0 : decide (x5_2 < (l0_0.length : Int)) = false := decide_eq_false c14
       clear c14;have H' := Am H
       clear H;have hnb24 := NB101_102.out;have hnc24 := NB102_101.out;obtain ⟨hcz25_0, hcz25_1, hfz25_0, hfz25_1⟩ := zc2 BK101;go_wp2
       repeat (go_quiet (fail); try go_wp2)
       go_loopg [6] k2 (fun kq v6 w' => ∃ (x6_3 : Int), v6 = .int .i64 x6_3 ∧ Aside0 (epitomeref06_Same.l1 kq x6_3 l0_0 l0_1 l1_0 l1_1 = some r) ∧ Aside0 (kq ≤ k2) ∧ Aside0 (w'.heap[gb101]? = some (.cells #[(.slice A0_0 l0_0.length c0_0), (.slice A0_1 l0_1.length c0_1)] 49 (0, 0))) ∧ Aside0 (w'.heap[gb102]? = some (.cells #[(.slice A1_0 l1_0.length c1_0), (.slice A1_1 l1_1.length c1_1)] 49 (0, 0))) ∧ Aside0 (Below w.heap.size w w'))
       case atStart => exact ⟨(0), zG, H', ⟨Nat.le_refl _⟩, ⟨(zK BK101)⟩, ⟨(zK BK102)⟩, ⟨(zB HB)⟩⟩
       case round =>
        clear H';(try clear c1);(try clear p1);(try clear q1);(try clear hx1);(try clear c2);(try clear p2);(try clear c3);(try clear c6);(try clear c6b0);(try clear c6b1);(try clear c6b2);(try clear p6);(try clear c7);(try clear c10);(try clear p10);(try clear q10);(try clear hx10);(try clear c13);(try clear c14);(try clear c14b0);(try clear c15);(try clear c15b0);(try clear c16);(try clear c16b0);(try clear c17);(try clear c17b0);(try clear c17b1);(try clear c18);(try clear c21);(try clear c24);(try clear hcz11_0);(try clear hcz11_1);(try clear hcz12_0);(try clear hcz12_1);(try clear hcz19_0);(try clear hcz19_1);(try clear hcz20_0);(try clear hcz20_1);(try clear hcz22_0);(try clear hcz22_1);(try clear hcz23_0);(try clear hcz23_1);(try clear hcz25_0);(try clear hcz25_1);(try clear hcz8_0);(try clear hcz8_1);(try clear hcz9_0);(try clear hcz9_1);(try clear hfz11_0);(try clear hfz11_1);(try clear hfz12_0);(try clear hfz12_1);(try clear hfz19_0);(try clear hfz19_1);(try clear hfz20_0);(try clear hfz20_1);(try clear hfz22_0);(try clear hfz22_1);(try clear hfz23_0);(try clear hfz23_1);(try clear hfz25_0);(try clear hfz25_1);(try clear hfz8_0);(try clear hfz8_1);(try clear hfz9_0);(try clear hfz9_1);(try clear hx103_0);(try clear hx104_0);(try clear p103);(try clear p104);(try clear p2);(try clear q103);(try clear q104);obtain ⟨x6_3, rfl, HA, HK3, BK101, BK102, HB⟩ := hrel
        cases gk with
        | zero => exact absurd HA.out (by simp [epitomeref06_Same.l1])
        | succ k3 =>
         have H := HA.out;clear HA;simp only [epitomeref06_Same.l1] at H
         by_cases c26 : x6_3 < (l0_1.length : Int)
         ·rw [if_pos c26] at H;have c26b0 : decide (x6_3 < (l0_1.length : Int)) = true := decide_eq_true c26
          clear c26;by_cases c27 : 0 ≤ x6_3
          ·rw [if_pos c27] at H;have c27b0 : decide (0 ≤ x6_3) = true := decide_eq_true c27
           clear c27;by_cases c28 : x6_3 < (l1_1.length : Int)
           ·rw [if_pos c28] at H;have c28b0 : decide (x6_3 < (l1_1.length : Int)) = true := decide_eq_true c28
            clear c28;by_cases c29 : ((rdOf false l0_1 x6_3) != (rdOf false l1_1 x6_3)) = true
            ·rw [if_pos c29] at H;have c29b0 : ((rdOf false l0_1 x6_3) != (rdOf false l1_1 x6_3)) = true := c29
             (try (have c29b1 : decide ((rdOf false l0_1 x6_3) = (rdOf false l1_1 x6_3)) = false := by simpa using c29))
             (try (have c29b2 : ((rdOf false l0_1 x6_3) == (rdOf false l1_1 x6_3)) = false := by simpa using c29))
             (try (have c29b3 : ¬ ((rdOf false l0_1 x6_3) = (rdOf false l1_1 x6_3)) := by simpa using c29))
             (try (have c29b4 : (rdOf false l0_1 x6_3) = true := neb_l (a := (rdOf false l0_1 x6_3)) (b := (rdOf false l1_1 x6_3)) (v := false) (by first | exact c29 | simpa using c29) (by assumption)))
             (try (have c29b5 : (rdOf false l0_1 x6_3) = false := neb_l (a := (rdOf false l0_1 x6_3)) (b := (rdOf false l1_1 x6_3)) (v := true) (by first | exact c29 | simpa using c29) (by assumption)))
             (try (have c29b6 : (rdOf false l1_1 x6_3) = true := neb_r (a := (rdOf false l0_1 x6_3)) (b := (rdOf false l1_1 x6_3)) (v := false) (by first | exact c29 | simpa using c29) (by assumption)))
             (try (have c29b7 : (rdOf false l1_1 x6_3) = false := neb_r (a := (rdOf false l0_1 x6_3)) (b := (rdOf false l1_1 x6_3)) (v := true) (by first | exact c29 | simpa using c29) (by assumption)))
             clear c29;obtain rfl := Option.some.inj H;have hnb30 := NB101_102.out;have hnc30 := NB102_101.out;obtain ⟨hcz31_0, hcz31_1, hfz31_0, hfz31_1⟩ := zc2 BK101;have p105 : 0 ≤ (x6_3 : Int) := of_decide_eq_true (by assumption)
             have q105 : x6_3 < (l0_1.length : Int) := of_decide_eq_true (by assumption)
             obtain ⟨ad105, e105, hx105_0⟩ := Kd.at_bool HR0_1.out x6_3 p105 q105
             cases e105
             replace hx105_0 := (HB.out.cell (World.block_lt_of_cell? w _ hx105_0)).trans hx105_0
             replace p105 := eq_true p105;replace q105 := eq_true q105;obtain ⟨hcz32_0, hcz32_1, hfz32_0, hfz32_1⟩ := zc2 BK102;have p106 : 0 ≤ (x6_3 : Int) := of_decide_eq_true (by assumption)
             have q106 : x6_3 < (l1_1.length : Int) := of_decide_eq_true (by assumption)
             obtain ⟨ad106, e106, hx106_0⟩ := Kd.at_bool HR1_1.out x6_3 p106 q106
             cases e106
             replace hx106_0 := (HB.out.cell (World.block_lt_of_cell? w _ hx106_0)).trans hx106_0
             replace p106 := eq_true p106;replace q106 := eq_true q106;go_wp2
             repeat (go_quiet (fail); try go_wp2)
             go_ret
             exact ⟨zF, (zB HB)⟩
            ·rw [if_neg c29] at H;have c29b0 : ((rdOf false l0_1 x6_3) != (rdOf false l1_1 x6_3)) = false := by simpa using c29
             (try (have c29b1 : decide ((rdOf false l0_1 x6_3) = (rdOf false l1_1 x6_3)) = true := by simpa using c29))
             (try (have c29b2 : ((rdOf false l0_1 x6_3) == (rdOf false l1_1 x6_3)) = true := by simpa using c29))
             (try (have c29b3 : (rdOf false l0_1 x6_3) = true := eqb_l (a := (rdOf false l0_1 x6_3)) (b := (rdOf false l1_1 x6_3)) (v := true) (by first | exact c29 | simpa using c29) (by assumption)))
             (try (have c29b4 : (rdOf false l0_1 x6_3) = false := eqb_l (a := (rdOf false l0_1 x6_3)) (b := (rdOf false l1_1 x6_3)) (v := false) (by first | exact c29 | simpa using c29) (by assumption)))
             (try (have c29b5 : (rdOf false l1_1 x6_3) = true := eqb_r (a := (rdOf false l0_1 x6_3)) (b := (rdOf false l1_1 x6_3)) (v := true) (by first | exact c29 | simpa using c29) (by assumption)))
             (try (have c29b6 : (rdOf false l1_1 x6_3) = false := eqb_r (a := (rdOf false l0_1 x6_3)) (b := (rdOf false l1_1 x6_3)) (v := false) (by first | exact c29 | simpa using c29) (by assumption)))
             clear c29;have H' := Am H
             clear H;have hnb33 := NB101_102.out;have hnc33 := NB102_101.out;obtain ⟨hcz34_0, hcz34_1, hfz34_0, hfz34_1⟩ := zc2 BK101;have p105 : 0 ≤ (x6_3 : Int) := of_decide_eq_true (by assumption)
             have q105 : x6_3 < (l0_1.length : Int) := of_decide_eq_true (by assumption)
             obtain ⟨ad105, e105, hx105_0⟩ := Kd.at_bool HR0_1.out x6_3 p105 q105
             cases e105
             replace hx105_0 := (HB.out.cell (World.block_lt_of_cell? w _ hx105_0)).trans hx105_0
             replace p105 := eq_true p105;replace q105 := eq_true q105;obtain ⟨hcz35_0, hcz35_1, hfz35_0, hfz35_1⟩ := zc2 BK102;have p106 : 0 ≤ (x6_3 : Int) := of_decide_eq_true (by assumption)
             have q106 : x6_3 < (l1_1.length : Int) := of_decide_eq_true (by assumption)
             obtain ⟨ad106, e106, hx106_0⟩ := Kd.at_bool HR1_1.out x6_3 p106 q106
             cases e106
             replace hx106_0 := (HB.out.cell (World.block_lt_of_cell? w _ hx106_0)).trans hx106_0
             replace p106 := eq_true p106;replace q106 := eq_true q106;go_wp2
             repeat (go_quiet (fail); try go_wp2)
             go_roundg k3
             case measure => have := HJ2.out; have := HK2.out; have := HK3.out; omega
             case rel => exact ⟨(wrap64 (x6_3 + 1)), zG, H', ⟨by have := HJ2.out; have := HK2.out; have := HK3.out; omega⟩, ⟨(zK BK101)⟩, ⟨(zK BK102)⟩, ⟨(zB HB)⟩⟩
           ·rw [if_neg c28] at H;exact absurd H (by simp)
          ·rw [if_neg c27] at H;exact absurd H (by simp)
         ·rw [if_neg c26] at H;have c26b0 : decide (x6_3 < (l0_1.length : Int)) = false := decide_eq_false c26
          clear c26;obtain rfl := Option.some.inj H;have hnb36 := NB101_102.out;have hnc36 := NB102_101.out;obtain ⟨hcz37_0, hcz37_1, hfz37_0, hfz37_1⟩ := zc2 BK101;go_wp2
          repeat (go_quiet (fail); try go_wp2)
          go_ret
          exact ⟨zF, (zB HB)⟩
end Go.Proofs.YtkefbljogjcodaaDoor.F
end
section
namespace Go.Proofs.YtkefbljogjcodaaDoor.F
open Go.RowKit Go.Proofs.YtkefbljogjcodaaDoorW.PrintWords Go.Proofs.YtkefbljogjcodaaDoorW.PrintLast Go.Proofs.YtkefbljogjcodaaDoorW.PrintMore
set_option linter.unusedVariables false
set_option linter.unusedSimpArgs false
def fillG (g : List Bool) (at_ n : Nat) (b : Bool) : List Bool := g.take at_ ++ List.replicate n b ++ g.drop (at_ + n)
def gapsL : List S26 → Nat → List ByteArray → List Bool → Option (List ByteArray × List Bool)
  | [], _, p, g => some (p, g)
  | s :: r, a, p, g => if a + s.f1.toNat ≤ 512 ∧ (p.getD a ⟨#[]⟩).size + s.f2.size ≤ 9223372036854775807 then
      gapsL r (a + s.f1.toNat) (p.set a (p.getD a ⟨#[]⟩ ++ s.f2)) (fillG g a s.f1.toNat (s.f0 == 3)) else none
def gaps_Of.f (k : Nat) (l : List S26) : Option (List ByteArray × List Bool × Int) :=
  (op_May.f k l).bind fun e => if e = 0 then ((op_In.f k l).bind fun n => if n > 512 then some ([], [], 4) else if 0 ≤ n then
    ((gapsL l 0 (List.replicate 513 ⟨#[]⟩) (List.replicate 512 false)).bind fun r => some (r.1.take (n.toNat + 1), r.2.take n.toNat, 0)) else none)
  else some ([], [], e)
theorem gaps_Of.mono (l : List S26) (k : Nat) : LeO (gaps_Of.f k l) (gaps_Of.f (k + 1) l) := by
  unfold gaps_Of.f
  refine LeO.bind (op_May.mono _ _) (fun e => ?_)
  split
  · exact LeO.bind (op_In.mono _ _) (fun n => LeO.refl _)
  · exact LeO.refl _
theorem slice_arrP (W : World) (g n : Nat) (h : n ≤ 513) : (Instr.sliceAt 81 (.pointer (some ⟨g, 0, none⟩)) none (some (.int .i64 (n : Int))) none).run Tryd.prog W = .ok (.slice (some ⟨g, 0, none⟩) n 513) W := by
  have hl : Tryd.prog.arrayLen 81 = 513 := by kernel_rfl
  have hs : (Go.sizeOf (Tryd.prog.elem 81)).run Tryd.prog W = .ok 1 W := by kernel_rfl
  rw [run_sliceAt_array_h W 81 _ (by kernel_rfl) .i64 n (by omega) (by rw [hl]; omega), hs, hl]
  simp [slicedAt, Addr.add]
theorem slice_arrG (W : World) (g n : Nat) (h : n ≤ 512) : (Instr.sliceAt 82 (.pointer (some ⟨g, 0, none⟩)) none (some (.int .i64 (n : Int))) none).run Tryd.prog W = .ok (.slice (some ⟨g, 0, none⟩) n 512) W := by
  have hl : Tryd.prog.arrayLen 82 = 512 := by kernel_rfl
  have hs : (Go.sizeOf (Tryd.prog.elem 82)).run Tryd.prog W = .ok 1 W := by kernel_rfl
  rw [run_sliceAt_array_h W 82 _ (by kernel_rfl) .i64 n (by omega) (by rw [hl]; omega), hs, hl]
  simp [slicedAt, Addr.add]
structure OfSt (w wr : World) (gR gP gG : Nat) (put : List ByteArray) (gone : List Bool) : Prop where
  b : Below w.heap.size w wr
  r : wr.heap[gR]? = some (.cells #[.slice none 0 0, .slice none 0 0] 49 (0, 0))
  p : wr.heap[gP]? = some (.cells (put.map Value.string).toArray 81 (0, 0))
  g : wr.heap[gG]? = some (.cells (gone.map Value.bool).toArray 82 (0, 0))
  lp : put.length = 513
  lg : gone.length = 512
  hR : w.heap.size ≤ gR
  hP : w.heap.size ≤ gP
  hG : w.heap.size ≤ gG
theorem OfSt.below {w wr w3 : World} {gR gP gG : Nat} {put : List ByteArray} {gone : List Bool} (h : OfSt w wr gR gP gG put gone) (hb : Below wr.heap.size wr w3) : OfSt w w3 gR gP gG put gone :=
  ⟨below_step h.b hb, blk_below h.r hb, blk_below h.p hb, blk_below h.g hb, h.lp, h.lg, h.hR, h.hP, h.hG⟩
theorem OfSt.pg {w wr : World} {gR gP gG : Nat} {put : List ByteArray} {gone : List Bool} (h : OfSt w wr gR gP gG put gone) : gP ≠ gG := blk_ne h.p h.g (by decide)
theorem OfSt.rp {w wr : World} {gR gP gG : Nat} {put : List ByteArray} {gone : List Bool} (h : OfSt w wr gR gP gG put gone) : gR ≠ gP := blk_ne h.r h.p (by decide)
theorem OfSt.rg {w wr : World} {gR gP gG : Nat} {put : List ByteArray} {gone : List Bool} (h : OfSt w wr gR gP gG put gone) : gR ≠ gG := blk_ne h.r h.g (by decide)
theorem OfSt.setP {w wr : World} {gR gP gG : Nat} {put : List ByteArray} {gone : List Bool} (h : OfSt w wr gR gP gG put gone) (i : Nat) (u : ByteArray) : OfSt w (wr.setCell ⟨gP, i, none⟩ (.string u)) gR gP gG (put.set i u) gone :=
  ⟨h.b.setCell h.hP _, (Below.heap_setCell wr ⟨gP, i, none⟩ _ gR h.rp).trans h.r, blk_put h.p i _ (by simp [List.map_set]), (Below.heap_setCell wr ⟨gP, i, none⟩ _ gG h.pg.symm).trans h.g, by rw [List.length_set]; exact h.lp, h.lg, h.hR, h.hP, h.hG⟩
theorem OfSt.setG {w wr : World} {gR gP gG : Nat} {put : List ByteArray} {gone : List Bool} (h : OfSt w wr gR gP gG put gone) (i : Nat) (u : Bool) : OfSt w (wr.setCell ⟨gG, i, none⟩ (.bool u)) gR gP gG put (gone.set i u) :=
  ⟨h.b.setCell h.hG _, (Below.heap_setCell wr ⟨gG, i, none⟩ _ gR h.rg).trans h.r, (Below.heap_setCell wr ⟨gG, i, none⟩ _ gP h.pg).trans h.p, blk_put h.g i _ (by simp [List.map_set]), h.lp, by rw [List.length_set]; exact h.lg, h.hR, h.hP, h.hG⟩
theorem OfSt.cellP {w wr : World} {gR gP gG : Nat} {put : List ByteArray} {gone : List Bool} (h : OfSt w wr gR gP gG put gone) (i : Nat) (hi : i < 513) : wr.cell? ⟨gP, i, none⟩ = some (.string (put.getD i ⟨#[]⟩)) := by
  rw [blk_cell h.p i, List.getElem?_toArray, List.getElem?_map, List.getD_eq_getElem?_getD, List.getElem?_eq_getElem (by rw [h.lp]; exact hi)]
  rfl
theorem OfSt.cellG {w wr : World} {gR gP gG : Nat} {put : List ByteArray} {gone : List Bool} (h : OfSt w wr gR gP gG put gone) (i : Nat) (hi : i < 512) : wr.cell? ⟨gG, i, none⟩ = some (.bool (gone.getD i false)) := by
  rw [blk_cell h.g i, List.getElem?_toArray, List.getElem?_map, List.getD_eq_getElem?_getD, List.getElem?_eq_getElem (by rw [h.lg]; exact hi)]
  rfl
theorem of_vP {w wr : World} {gP : Nat} {put : List ByteArray} (hp : wr.heap[gP]? = some (.cells (put.map Value.string).toArray 81 (0, 0))) (hlen : put.length = 513) (hle : w.heap.size ≤ gP) (n : Nat) (hn : n ≤ 513) :
    Kd.V Kd.string 9 wr w.heap.size (fun k_ => w.heap.size ≤ k_) (.slice (some ⟨gP, 0, none⟩) n 513) (put.take n) := by
  have hl : (put.take n).length = n := by rw [List.length_take, hlen]; omega
  refine ⟨some ⟨gP, 0, none⟩, 513, by rw [hl], by omega, fun W' hW => ?_⟩
  have hb := (hW gP hle (blk_lt hp)).trans hp
  refine Kd.C_of_reads (enc := Value.string) (d := (⟨#[]⟩ : ByteArray)) (h1 := fun _ => rfl) ⟨rfl, by omega, fun _ => ⟨_, rfl, fun j hj => ?_⟩⟩
  rw [hl] at hj
  rw [add_plain, blk_cell hb j, List.getElem?_toArray, List.getElem?_map, List.getElem?_eq_getElem (by rw [hlen]; omega), List.getD_eq_getElem?_getD, List.getElem?_take, if_pos hj, List.getElem?_eq_getElem (by rw [hlen]; omega)]
  rfl
theorem of_vG {w wr : World} {gG : Nat} {gone : List Bool} (hp : wr.heap[gG]? = some (.cells (gone.map Value.bool).toArray 82 (0, 0))) (hlen : gone.length = 512) (hle : w.heap.size ≤ gG) (n : Nat) (hn : n ≤ 512) :
    Kd.V Kd.bool 4 wr w.heap.size (fun k_ => w.heap.size ≤ k_) (.slice (some ⟨gG, 0, none⟩) n 512) (gone.take n) := by
  have hl : (gone.take n).length = n := by rw [List.length_take, hlen]; omega
  refine ⟨some ⟨gG, 0, none⟩, 512, by rw [hl], by omega, fun W' hW => ?_⟩
  have hb := (hW gG hle (blk_lt hp)).trans hp
  refine Kd.C_of_reads (enc := Value.bool) (d := false) (h1 := fun _ => rfl) ⟨rfl, by omega, fun _ => ⟨_, rfl, fun j hj => ?_⟩⟩
  rw [hl] at hj
  rw [add_plain, blk_cell hb j, List.getElem?_toArray, List.getElem?_map, List.getElem?_eq_getElem (by rw [hlen]; omega), List.getD_eq_getElem?_getD, List.getElem?_take, if_pos hj, List.getElem?_eq_getElem (by rw [hlen]; omega)]
  rfl
theorem fillG_zero (g : List Bool) (a : Nat) (b : Bool) : fillG g a 0 b = g := by unfold fillG; simp
theorem fillG_step (g : List Bool) (a n : Nat) (b : Bool) (h : a + n < g.length) : (fillG g a n b).set (a + n) b = fillG g a (n + 1) b := by
  unfold fillG
  have e1 : g.drop (a + n) = g[a + n] :: g.drop (a + (n + 1)) := by rw [List.drop_eq_getElem_cons h]; rfl
  have l1 : (g.take a ++ List.replicate n b).length = a + n := by simp; omega
  rw [e1, List.set_append_right _ _ (by omega), l1, Nat.sub_self, List.set_cons_zero, List.replicate_succ', List.append_assoc, List.append_assoc, List.append_assoc]
  rfl
set_option maxHeartbeats 40000000 in
set_option maxRecDepth 100000 in
theorem gaps_Of_loop (k : Nat) (A0 : Option Addr) (c0 : Nat) (l0 : List S26) (n : Nat) (put : List ByteArray) (gone : List Bool) (w : World) (hG : Glob w)
    (hr0 : Kd.C k26 w A0 l0.length l0) (hc0 : l0.length ≤ c0) (h1 : op_May.f k l0 = some 0) (h2 : op_In.f k l0 = some (n : Int)) (hn : n ≤ 512)
    (h : gapsL l0 0 (List.replicate 513 ⟨#[]⟩) (List.replicate 512 false) = some (put, gone)) :
    Calls Tryd.prog 31 #[.slice A0 l0.length c0] w fun e w' => ∃ v0_ v1_ : Value, e = .returned (.tuple #[.agg #[v0_, v1_], .int .i64 0]) ∧ Kd.V Kd.string 9 w' w.heap.size (fun k_ => w.heap.size ≤ k_) v0_ (put.take (n + 1)) ∧ Kd.V Kd.bool 4 w' w.heap.size (fun k_ => w.heap.size ≤ k_) v1_ (gone.take n) ∧ Below w.heap.size w w' := by
  have HG := Aside0.mk hG
  have HR0 := Aside0.mk hr0
  have HC0 := Aside0.mk hc0
  have H1 := Aside0.mk h1
  have H2 := Aside0.mk h2
  have H := Aside0.mk h
  have HN := Aside0.mk hn
  have HM : Aside0 (l0.length ≤ 9223372036854775807) := ⟨hr0.2.1⟩
  have d1 : decide ((512 : Int) < (n : Int)) = false := decide_eq_false (by omega)
  clear hG hr0 hc0 h1 h2 h hn
  go_enter Tryd.func31, Tryd.ntmps31
  go_wp2_with (first | (go_at_call 47; (with_reducible refine (op_May.calls k _ _ l0 0 _ (HG.out.below (below_alloc (Below.refl _ _) _)) (Kd.C_alloc HR0.out _) HC0.out H1.out).mono ?_); rintro e w1 ⟨rfl, hb⟩; have HB1 := Aside0.mk hb; clear hb) | (go_at_call 45; (with_reducible refine (op_In.calls k _ _ l0 (n : Int) _ (HG.out.below (below_step (below_alloc (Below.refl _ _) _) HB1.out)) (Kd.C_below (Kd.C_alloc HR0.out _) HB1.out) HC0.out H2.out).mono ?_); rintro e w2 ⟨rfl, hb⟩; have HB2 := Aside0.mk hb; clear hb))
  have HI0 : Aside0 (OfSt w ((w2.alloc (.cells Tryd.zeroCells81 81)).alloc (.cells Tryd.zeroCells82 82)) w.heap.size w2.heap.size (w2.heap.size + 1) (List.replicate 513 ⟨#[]⟩) (List.replicate 512 false)) := ⟨by
    have b1 : Below w.heap.size w w2 := below_step (below_step (below_alloc (Below.refl _ _) _) HB1.out) HB2.out
    have z1 : w.heap.size < w1.heap.size := by have := HB1.out.size; rw [size_alloc] at this; omega
    have z2 : w1.heap.size ≤ w2.heap.size := HB2.out.size
    refine ⟨below_alloc (below_alloc b1 _) _, blk_alloc (blk_alloc (blk_below (blk_below (blk_new w _) HB1.out) HB2.out) _) _, ?_, ?_, by simp, by simp, Nat.le_refl _, by omega, by omega⟩
    · have := blk_alloc (blk_new w2 (.cells Tryd.zeroCells81 81)) (.cells Tryd.zeroCells82 82)
      rw [this]
      exact congrArg (fun c => some (Obj.cells c 81 (0, 0))) (by kernel_rfl)
    · have := blk_new (w2.alloc (.cells Tryd.zeroCells81 81)) (.cells Tryd.zeroCells82 82)
      rw [size_alloc] at this
      rw [this]
      exact congrArg (fun c => some (Obj.cells c 82 (0, 0))) (by kernel_rfl)⟩
  generalize w2.heap.size + 1 = gG at HI0 ⊢
  generalize w2.heap.size = gP at HI0 ⊢
  go_loopg [8, 24] l0.length (fun kq v8 v24 w' => ∃ (i a : Nat) (p : List ByteArray) (g : List Bool), v8 = .int .i64 a ∧ v24 = .int .i64 i ∧ Aside0 (i ≤ l0.length) ∧ Aside0 (kq = l0.length - i) ∧ Aside0 (a ≤ 512) ∧ Aside0 (OfSt w w' w.heap.size gP gG p g) ∧ Aside0 (gapsL (l0.drop i) a p g = some (put, gone)))
  case atStart => exact ⟨0, 0, _, _, rfl, rfl, ⟨Nat.zero_le _⟩, ⟨rfl⟩, ⟨Nat.zero_le _⟩, HI0, H⟩
  case round =>
    clear HI0 H
    obtain ⟨i, a, p, g, rfl, rfl, HI, HK, HA, ST, H⟩ := hrel
    by_cases hi : i < l0.length
    · have h := H.out
      rw [List.drop_eq_getElem_cons hi, gapsL] at h
      split at h
      · next hc =>
        obtain ⟨hc1, hc2⟩ := hc
        obtain ⟨s, hs⟩ : ∃ s, l0[i] = s := ⟨_, rfl⟩
        rw [hs] at h hc1 hc2
        obtain ⟨ad, e, hx0, hx1, hx2⟩ := at_T26 (Kd.C_below HR0.out ST.out.b) (i : Int) (by omega) (by omega)
        cases e
        have hrd : rd_T26 l0 (i : Int) = s := by
          unfold rd_T26
          rw [Int.toNat_natCast, List.getD_eq_getElem?_getD, List.getElem?_eq_getElem hi]
          exact hs
        rw [hrd, Int.toNat_natCast] at hx0 hx1 hx2
        have HNX := Aside0.mk h
        have STA := Aside0.mk (ST.out.below (below_alloc (Below.refl _ _) (.cells #[.int .i64 s.f0, .int .i64 s.f1, .string s.f2] 26)))
        have cp := STA.out.cellP a (by have := HA.out; omega)
        have fp := blk_frozen STA.out.p a
        obtain ⟨pa, hpa⟩ : ∃ pa, p.getD a ⟨#[]⟩ = pa := ⟨_, rfl⟩
        rw [hpa] at cp hc2
        have HPA := Aside0.mk hpa
        clear hpa
        have cs2 : (wr.alloc (.cells #[.int .i64 s.f0, .int .i64 s.f1, .string s.f2] 26)).cell? ⟨wr.heap.size, 2, none⟩ = some (.string s.f2) := (blk_cell (blk_new wr _) 2).trans rfl
        have i1 : decide (i < l0.length) = true := decide_eq_true hi
        have a1 : (a : Int) < 513 := by have := HA.out; omega
        have a2 : a < 513 := by have := HA.out; omega
        have HMI : Aside0 ((i : Int) < 9223372036854775807) := ⟨by have := HM.out; omega⟩
        clear h hs hrd
        go_wp2
        go_region
        obtain ⟨bx, hbx⟩ : ∃ bx, wr.heap.size = bx := ⟨_, rfl⟩
        have BX0 : (wr.alloc (.cells #[.int .i64 s.f0, .int .i64 s.f1, .string s.f2] 26)).heap[bx]? = some (.cells #[.int .i64 s.f0, .int .i64 s.f1, .string s.f2] 26 (0, 0)) := hbx ▸ blk_new wr _
        have hne : bx ≠ gP := by have := blk_lt ST.out.p; omega
        have hneG : Aside0 (bx ≠ gG) := ⟨by have := blk_lt ST.out.g; omega⟩
        have STB : Aside0 (OfSt w (((wr.alloc (.cells #[.int .i64 s.f0, .int .i64 s.f1, .string s.f2] 26)).setCell ⟨gP, a, none⟩ (.string (pa ++ s.f2))).drew) w.heap.size gP gG (p.set a (pa ++ s.f2)) g) := ⟨(STA.out.setP a (pa ++ s.f2)).below (below_drew1 (Below.refl _ _))⟩
        have BX : Aside0 ((((wr.alloc (.cells #[.int .i64 s.f0, .int .i64 s.f1, .string s.f2] 26)).setCell ⟨gP, a, none⟩ (.string (pa ++ s.f2))).drew).heap[bx]? = some (.cells #[.int .i64 s.f0, .int .i64 s.f1, .string s.f2] 26 (0, 0))) := ⟨blk_drew ((Below.heap_setCell _ ⟨gP, a, none⟩ _ bx hne).trans BX0)⟩
        rw [hbx]
        clear hbx BX0 cp fp cs2 STA
        generalize (((wr.alloc (.cells #[.int .i64 s.f0, .int .i64 s.f1, .string s.f2] 26)).setCell ⟨gP, a, none⟩ (.string (pa ++ s.f2))).drew) = wb at STB BX ⊢
        have cn : wb.cell? ⟨bx, 1, none⟩ = some (.int .i64 s.f1) := (blk_cell BX.out 1).trans rfl
        have HA2 : Aside0 (a + s.f1.toNat ≤ 512) := ⟨hc1⟩
        have HLG : Aside0 (g.length = 512) := ⟨ST.out.lg⟩
        clear hx0 hx1 hx2 hc1 hc2 a1 a2 hne
        go_wp2
        go_loopg [8, 37] s.f1.toNat (fun kq v8 v37 w' => ∃ (j c : Nat), v8 = .int .i64 c ∧ v37 = .int .i64 j ∧ Aside0 (c = a + j) ∧ Aside0 (j ≤ s.f1.toNat) ∧ Aside0 (kq = s.f1.toNat - j) ∧ Aside0 (OfSt w w' w.heap.size gP gG (p.set a (pa ++ s.f2)) (fillG g a j (s.f0 == 3))) ∧ Aside0 (w'.heap[bx]? = some (.cells #[.int .i64 s.f0, .int .i64 s.f1, .string s.f2] 26 (0, 0))))
        case atStart => exact ⟨0, a, rfl, rfl, ⟨rfl⟩, ⟨Nat.zero_le _⟩, ⟨rfl⟩, ⟨by rw [fillG_zero]; exact STB.out⟩, BX⟩
        case round =>
          clear STB BX cn ST
          obtain ⟨j, c, rfl, rfl, HC, HJ, HKJ, ST, BX⟩ := hrel
          by_cases hj : j < s.f1.toNat
          · have hc5 : c < 512 := by have := HC.out; have := HA2.out; omega
            have hc5i : (c : Int) < 512 := by omega
            have t1 : decide ((j : Int) < s.f1) = true := decide_eq_true (by omega)
            have cn : wr.cell? ⟨bx, 0, none⟩ = some (.int .i64 s.f0) := (blk_cell BX.out 0).trans rfl
            have cg := ST.out.cellG c hc5
            have fg := blk_frozen ST.out.g c
            have jm : (j : Int) < 9223372036854775807 := by have := HA2.out; omega
            have ST2 : Aside0 (OfSt w (wr.setCell ⟨gG, c, none⟩ (.bool (s.f0 == 3))) w.heap.size gP gG (p.set a (pa ++ s.f2)) (fillG g a (j + 1) (s.f0 == 3))) := ⟨by
              have h2 := ST.out.setG c (s.f0 == 3)
              rw [HC.out, fillG_step g a j _ (by have := HLG.out; have := HA2.out; omega), ← HC.out] at h2
              exact h2⟩
            have BX2 : Aside0 ((wr.setCell ⟨gG, c, none⟩ (.bool (s.f0 == 3))).heap[bx]? = some (.cells #[.int .i64 s.f0, .int .i64 s.f1, .string s.f2] 26 (0, 0))) := ⟨(Below.heap_setCell _ ⟨gG, c, none⟩ _ bx hneG.out).trans BX.out⟩
            generalize (fillG g a j (s.f0 == 3)).getD c false = og at cg
            go_wp2
            go_roundg (s.f1.toNat - (j + 1))
            case measure => have := HKJ.out; omega
            case rel => exact ⟨j + 1, c + 1, by go_num, by go_num, ⟨by have := HC.out; omega⟩, ⟨by omega⟩, ⟨rfl⟩, ST2, BX2⟩
          · have t1 : decide ((j : Int) < s.f1) = false := decide_eq_false (by omega)
            have hje : j = s.f1.toNat := by have := HJ.out; omega
            have HC' : Aside0 (c = a + s.f1.toNat) := ⟨by rw [← hje]; exact HC.out⟩
            have STF : Aside0 (OfSt w wr w.heap.size gP gG (p.set a (pa ++ s.f2)) (fillG g a s.f1.toNat (s.f0 == 3))) := ⟨by rw [← hje]; exact ST.out⟩
            have im := HMI.out
            clear hje hj
            go_wp2
            go_roundg (l0.length - (i + 1))
            case measure => have := HK.out; omega
            case rel => exact ⟨i + 1, c, _, _, rfl, by go_num, ⟨by omega⟩, ⟨rfl⟩, ⟨by have := HC'.out; have := HA2.out; omega⟩, STF, ⟨by have := HNX.out; rw [HPA.out] at this; rw [HC'.out]; exact this⟩⟩
      · cases h
    · have hl : l0.length ≤ i := by omega
      have h := H.out
      rw [List.drop_eq_nil_of_le hl] at h
      obtain ⟨rfl, rfl⟩ : p = put ∧ g = gone := by simpa [gapsL] using h
      have i1 : decide (i < l0.length) = false := decide_eq_false hi
      have n1 : n ≤ 512 := HN.out
      have n2 : (n : Int) ≤ 512 := by omega
      have n3 : (n : Int) + 1 ≤ 513 := by omega
      have cr0 : wr.cell? ⟨w.heap.size, 0, none⟩ = some (.slice none 0 0) := (blk_cell ST.out.r 0).trans rfl
      have cr1 : wr.cell? ⟨w.heap.size, 1, none⟩ = some (.slice none 0 0) := (blk_cell ST.out.r 1).trans rfl
      have fr0 := blk_frozen ST.out.r 0
      have fr1 := blk_frozen ST.out.r 1
      have sP : ∀ W, (Instr.sliceAt 81 (.pointer (some ⟨gP, 0, none⟩)) none (some (.int .i64 ((n : Int) + 1))) none).run Tryd.prog W = .ok (.slice (some ⟨gP, 0, none⟩) (n + 1) 513) W := fun W => by
        have := slice_arrP W gP (n + 1) (by omega)
        rwa [show ((n + 1 : Nat) : Int) = (n : Int) + 1 by omega] at this
      have sG := fun W => slice_arrG W gG n (by omega)
      clear h hl hi
      go_wp2
      go_region
      go_wp2
      refine bodyPost_ret (results_ct rfl _ _ w.heap.size 49 #[.slice (some ⟨gP, 0, none⟩) (n + 1) 513, .slice (some ⟨gG, 0, none⟩) n 512] (0, 0) _ rfl (by refine blk_drew ?_; refine blk_put (cs := #[.slice (some ⟨gP, 0, none⟩) (n + 1) 513, .slice none 0 0]) ?_ 1 _ rfl; exact blk_put (cs := #[.slice none 0 0, .slice none 0 0]) ST.out.r 0 _ rfl) Tryd.underlying49 rfl (by kernel_rfl)) rfl ?_
      have hne1 := ST.out.rp
      have hne2 := ST.out.rg
      refine ⟨_, _, rfl, of_vP (blk_drew ((Below.heap_setCell _ ⟨w.heap.size, 1, none⟩ _ gP hne1.symm).trans ((Below.heap_setCell _ ⟨w.heap.size, 0, none⟩ _ gP hne1.symm).trans ST.out.p))) ST.out.lp ST.out.hP (n + 1) (by omega),
        of_vG (blk_drew ((Below.heap_setCell _ ⟨w.heap.size, 1, none⟩ _ gG hne2.symm).trans ((Below.heap_setCell _ ⟨w.heap.size, 0, none⟩ _ gG hne2.symm).trans ST.out.g))) ST.out.lg ST.out.hG n (by omega), ?_⟩
      exact below_drew1 (below_set (below_set ST.out.b (Nat.le_refl _)) (Nat.le_refl _))
set_option maxHeartbeats 40000000 in
set_option maxRecDepth 100000 in
theorem gaps_Of.calls (k : Nat) (A0 : Option Addr) (c0 : Nat) (l0 : List S26) (r1 : List ByteArray) (r2 : List Bool) (r3 : Int) (w : World) (hG : Glob w) (hr0 : Kd.C k26 w A0 l0.length l0) (hc0 : l0.length ≤ c0) (h : gaps_Of.f k l0 = some (r1, r2, r3)) :
  Calls Tryd.prog 31 #[.slice A0 l0.length c0] w fun e w' => ∃ v0_ v1_ : Value, e = .returned (.tuple #[.agg #[v0_, v1_], .int .i64 r3]) ∧ Kd.V Kd.string 9 w' w.heap.size (fun k_ => w.heap.size ≤ k_) v0_ r1 ∧ Kd.V Kd.bool 4 w' w.heap.size (fun k_ => w.heap.size ≤ k_) v1_ r2 ∧ Below w.heap.size w w' := by
 unfold gaps_Of.f at h
 obtain ⟨e, h1, h⟩ := Option.bind_eq_some_iff.1 h
 split at h
 ·next he =>
  subst he
  obtain ⟨n, h2, h⟩ := Option.bind_eq_some_iff.1 h
  split at h
  ·next hn =>
   obtain ⟨rfl, rfl, rfl⟩ : [] = r1 ∧ [] = r2 ∧ 4 = r3 := by simpa using h
   have HG := Aside0.mk hG;have HR0 := Aside0.mk hr0;have HC0 := Aside0.mk hc0;have H1 := Aside0.mk h1;have H2 := Aside0.mk h2;have d1 : decide ((512 : Int) < n) = true := decide_eq_true hn
   clear hG hr0 hc0 h1 h2 h hn;go_enter Tryd.func31, Tryd.ntmps31
   go_wp2_with (first | (go_at_call 47; (with_reducible refine (op_May.calls k _ _ l0 0 _ (HG.out.below (below_alloc (Below.refl _ _) _)) (Kd.C_alloc HR0.out _) HC0.out H1.out).mono ?_); rintro e w1 ⟨rfl, hb⟩; have HB1 := Aside0.mk hb; clear hb) | (go_at_call 45; (with_reducible refine (op_In.calls k _ _ l0 n _ (HG.out.below (below_step (below_alloc (Below.refl _ _) _) HB1.out)) (Kd.C_below (Kd.C_alloc HR0.out _) HB1.out) HC0.out H2.out).mono ?_); rintro e w2 ⟨rfl, hb⟩; have HB2 := Aside0.mk hb; have bk := blk_below (blk_below (blk_new w (.cells #[.slice none 0 0, .slice none 0 0] 49)) HB1.out) hb; have cr0 : w2.cell? ⟨w.heap.size, 0, none⟩ = some (.slice none 0 0) := (blk_cell bk 0).trans rfl; have cr1 : w2.cell? ⟨w.heap.size, 1, none⟩ = some (.slice none 0 0) := (blk_cell bk 1).trans rfl; have fr0 := blk_frozen bk 0; have fr1 := blk_frozen bk 1; have BK := Aside0.mk bk; clear hb bk))
   refine bodyPost_ret (results_ct rfl _ _ w.heap.size 49 #[.slice none 0 0, .slice none 0 0] (0, 0) _ rfl (by refine blk_put (cs := #[.slice none 0 0, .slice none 0 0]) ?_ 1 _ rfl; exact blk_put (cs := #[.slice none 0 0, .slice none 0 0]) BK.out 0 _ rfl) Tryd.underlying49 rfl (by kernel_rfl)) rfl ?_
   exact ⟨_, _, rfl, Kd.V_nil _ _ _ _ _, Kd.V_nil _ _ _ _ _, below_set (below_set (below_step (below_step (below_alloc (Below.refl _ _) _) HB1.out) HB2.out) (Nat.le_refl _)) (Nat.le_refl _)⟩
  ·next hn =>
   split at h
   ·next h0 =>
    obtain ⟨⟨p, g⟩, h3, h4⟩ := Option.bind_eq_some_iff.1 h
    obtain ⟨m, rfl⟩ := Int.eq_ofNat_of_zero_le h0
    obtain ⟨rfl, rfl, rfl⟩ : p.take (m + 1) = r1 ∧ g.take m = r2 ∧ 0 = r3 := by simpa using h4
    exact gaps_Of_loop k A0 c0 l0 m p g w hG hr0 hc0 h1 h2 (by omega) h3
   ·cases h
 ·next he =>
  obtain ⟨rfl, rfl, rfl⟩ : [] = r1 ∧ [] = r2 ∧ e = r3 := by simpa using h
  have HG := Aside0.mk hG;have HR0 := Aside0.mk hr0;have HC0 := Aside0.mk hc0;have H1 := Aside0.mk h1;have d1 : (e != 0) = true := by simp [he]
  clear hG hr0 hc0 h1 h he;go_enter Tryd.func31, Tryd.ntmps31
  go_wp2_with (go_at_call 47; (with_reducible refine (op_May.calls k _ _ l0 e _ (HG.out.below (below_alloc (Below.refl _ _) _)) (Kd.C_alloc HR0.out _) HC0.out H1.out).mono ?_); rintro e2 w1 ⟨rfl, hb⟩; have bk := blk_below (blk_new w (.cells #[.slice none 0 0, .slice none 0 0] 49)) hb; have cr0 : w1.cell? ⟨w.heap.size, 0, none⟩ = some (.slice none 0 0) := (blk_cell bk 0).trans rfl; have cr1 : w1.cell? ⟨w.heap.size, 1, none⟩ = some (.slice none 0 0) := (blk_cell bk 1).trans rfl; have fr0 := blk_frozen bk 0; have fr1 := blk_frozen bk 1; have BK := Aside0.mk bk; have HB1 := Aside0.mk hb; clear hb bk)
  refine bodyPost_ret (results_ct rfl _ _ w.heap.size 49 #[.slice none 0 0, .slice none 0 0] (0, 0) _ rfl (by refine blk_put (cs := #[.slice none 0 0, .slice none 0 0]) ?_ 1 _ rfl; exact blk_put (cs := #[.slice none 0 0, .slice none 0 0]) BK.out 0 _ rfl) Tryd.underlying49 rfl (by kernel_rfl)) rfl ?_
  exact ⟨_, _, rfl, Kd.V_nil _ _ _ _ _, Kd.V_nil _ _ _ _ _, below_set (below_set (below_step (below_alloc (Below.refl _ _) _) HB1.out) (Nat.le_refl _)) (Nat.le_refl _)⟩
end Go.Proofs.YtkefbljogjcodaaDoor.F
end
