import Derived.Test.YtekjfodfedpioaaDoorKCComposeGapsE
import Derived.Below
import Derived.Deep.Draws
import Derived.Deep.AppendLies
import Derived.Maps.AppendAt
import Derived.OwnWalk
import Derived.Laws.BytesArg
import Derived.Laws.MakeOwn
import Derived.Laws.OwnMore
import Derived.Deep.OwnRows
import Derived.Tactics
import Derived.Lib.ConvBytes
import Derived.Laws.Slices
import Derived.WalkKit
import Derived.KernelRfl
import Derived.RowKit3
import Derived.Deep.LoopGhost
import Derived.Deep.QuietTactic
import Derived.BigQuiet
import Derived.WideLaws
import Derived.Deep.DeepCutAuto
import Derived.Deep.CutBlock
import Derived.Deep.RegionHeld3
import Derived.Laws.Rows
import Derived.Lib.AppendStr
import Derived.ArgAppend
import Derived.Laws.IdiomCopy
import Derived.RowKit
import Derived.OrdersHeld
import Derived.Laws.BitsLemmas
import Derived.Laws.StructEq
import Derived.Test.YtekjfodfedpioaaDoorProg
import Derived.Handy
import Derived.Shelf.Unicode.DecodeSlow
import Derived.Ground.NamesProg
import Derived.Shelf.Unicode.ValidAny
import Derived.Laws.RangeString
import Derived.Laws.RangeAny
import Derived.Lib.RuneCount
import Derived.Laws.IdiomStrings
import Derived.Laws.Cover4
import Derived.Great.BuildSlice
import Derived.RangeFuncNested
import Derived.RangeFuncBound
import Derived.RangeFuncCalls
import Derived.RangeFuncLeaves
import Derived.Shelf.Abstract
import Derived.Shelf.RegionOpen
import Derived.OwnWalkIn
import Derived.TacticsInMore
import Derived.LoopNIn
import Derived.LoopIn
import Derived.Defers
section
namespace Go.Proofs.YtekjfodfedpioaaDoor.F
open Go.RowKit Go.Proofs.YtekjfodfedpioaaDoorW.PrintWords Go.Proofs.YtekjfodfedpioaaDoorW.PrintLast Go.Proofs.YtekjfodfedpioaaDoorW.PrintMore
set_option linter.unusedVariables false
set_option linter.unusedSimpArgs false
structure OvS (w0 W : World) (gL glx gly cx cy : Nat) (A B : Option Addr) (x y out : List S55) (v : Value) : Prop where
 b : Below w0.heap.size w0 W
 rx : RowAt W A glx x
 ry : RowAt W B gly y
 hx : 0 < x.length → w0.heap.size ≤ glx
 hy : 0 < y.length → w0.heap.size ≤ gly
 xc : x.length ≤ cx
 xm : cx ≤ 9223372036854775807
 yc : y.length ≤ cy
 ym : cy ≤ 9223372036854775807
 n : 0 < x.length → 0 < y.length → glx ≠ gly
 c : W.heap[gL]? = some (.cells #[v] 22 (0, 0))
 hL : w0.heap.size ≤ gL
 o : Kd.R k55 55 W w0.heap.size (fun _ => True) v out
 nx : 0 < x.length → some glx ≠ v.ownBlock
 ny : 0 < y.length → some gly ≠ v.ownBlock
theorem RowAt.keep {W W' : World} {A : Option Addr} {gl : Nat} {l : List S55} (h : RowAt W A gl l) (hk : 0 < l.length → W'.heap[gl]? = W.heap[gl]?) : RowAt W' A gl l := fun hp => by
 obtain ⟨o, cur, e1, e2, e3⟩ := h hp
 exact ⟨o, cur, e1, (hk hp).trans e2, e3⟩
theorem RowAt.lt {W : World} {A : Option Addr} {gl : Nat} {l : List S55} (h : RowAt W A gl l) (hp : 0 < l.length) : gl < W.heap.size := by
 obtain ⟨_, _, _, e, _⟩ := h hp
 exact blk_lt e
theorem OvS.swap {w0 W : World} {gL glx gly cx cy : Nat} {A B : Option Addr} {x y out : List S55} {v : Value} (h : OvS w0 W gL glx gly cx cy A B x y out v) : OvS w0 W gL gly glx cy cx B A y x out v :=
 ⟨h.b, h.ry, h.rx, h.hy, h.hx, h.yc, h.ym, h.xc, h.xm, fun a b e => h.n b a e.symm, h.c, h.hL, h.o, h.ny, h.nx⟩
theorem OvS.below {w0 W W' : World} {gL glx gly cx cy : Nat} {A B : Option Addr} {x y out : List S55} {v : Value} (h : OvS w0 W gL glx gly cx cy A B x y out v) (hb : Below W.heap.size W W') : OvS w0 W' gL glx gly cx cy A B x y out v :=
 ⟨below_step h.b hb, h.rx.keep (fun hp => hb.block _ (h.rx.lt hp)), h.ry.keep (fun hp => hb.block _ (h.ry.lt hp)), h.hx, h.hy, h.xc, h.xm, h.yc, h.ym, h.n, blk_below h.c hb, h.hL, Kd.R_below h.o hb, h.nx, h.ny⟩
theorem OvS.far {w0 W : World} {gL glx gly cx cy : Nat} {A B : Option Addr} {x y out : List S55} {v : Value} (h : OvS w0 W gL glx gly cx cy A B x y out v) (hp : 0 < x.length) : glx ≠ gL := by
 obtain ⟨_, _, _, e, _⟩ := h.rx hp
 exact blk_ne e h.c (by decide)
theorem OvS.tail {w0 W : World} {gL glx gly cx cy : Nat} {A B A' : Option Addr} {s : S55} {x y out : List S55} {v : Value} (h : OvS w0 W gL glx gly cx cy A B (s :: x) y out v) (e : (if cx = 1 then A else A.map (·.add (1 * 3))) = A') : OvS w0 W gL glx gly (cx - 1) cy A' B x y out v :=
 ⟨h.b, by rw [← e]; exact row_tail h.rx h.xc, h.ry, fun _ => h.hx (by simp), h.hy, by have := h.xc; rw [List.length_cons] at this; omega, by have := h.xm; omega, h.yc, h.ym, fun _ hq => h.n (by simp) hq, h.c, h.hL, h.o, fun _ => h.nx (by simp), h.ny⟩
theorem OvS.append {w0 W w1 : World} {gL glx gly cx cy : Nat} {A B : Option Addr} {x y out out' : List S55} {v v1 : Value} (h : OvS w0 W gL glx gly cx cy A B x y out v) (ho : Kd.R k55 55 w1 w0.heap.size (fun _ => True) v1 out') (hb : Below w0.heap.size w0 w1) (hg : W.grownBy w1 v.ownBlock) (hat : v1.ownBlock = v.ownBlock ∨ ∃ b, v1.ownBlock = some b ∧ W.heap.size ≤ b) :
  OvS w0 (w1.setCell ⟨gL, 0, none⟩ v1) gL glx gly cx cy A B x y out' v1 := by
 have away : ∀ k, k < W.heap.size → some k ≠ v.ownBlock → some k ≠ v1.ownBlock := by
  intro k hk hn e;rcases hat with e1 | ⟨b, e1, hb⟩
  ·exact hn (e.trans e1)
  ·rw [e1] at e
   injection e with e
   omega
 have hc1 : w1.heap[gL]? = some (.cells #[v] 22 (0, 0)) := (hg.block gL (blk_lt h.c) (Kd.R_ne h.o h.c (by decide))).trans h.c
 have keep : ∀ k, k < W.heap.size → k ≠ gL → some k ≠ v.ownBlock → (w1.setCell ⟨gL, 0, none⟩ v1).heap[k]? = W.heap[k]? := fun k hk h1 h2 => (Below.heap_setCell w1 ⟨gL, 0, none⟩ v1 k h1).trans (hg.block k hk h2)
 exact ⟨hb.setCell (p := ⟨gL, 0, none⟩) h.hL _, h.rx.keep (fun hp => keep _ (h.rx.lt hp) (h.far hp) (h.nx hp)), h.ry.keep (fun hp => keep _ (h.ry.lt hp) (h.swap.far hp) (h.ny hp)), h.hx, h.hy, h.xc, h.xm, h.yc, h.ym, h.n, blk_put hc1 0 _ rfl, h.hL, Kd.R_set ho hc1 (by decide) 0 _, fun hp => away _ (h.rx.lt hp) (h.nx hp), fun hp => away _ (h.ry.lt hp) (h.ny hp)⟩
end Go.Proofs.YtekjfodfedpioaaDoor.F
end
