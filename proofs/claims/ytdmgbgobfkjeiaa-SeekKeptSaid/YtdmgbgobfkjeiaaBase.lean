-- Written by drive.py (this session's) with the kit's printer, beside functions proved by hand. Not trusted: Lean checks it.
import Derived.Test.YtdmgbgobfkjeiaaProg
import Derived.Below
import Derived.Deep.Draws
import Derived.Deep.AppendLies
import Derived.Maps.AppendAt
import Derived.OwnWalk
import Derived.Laws.BytesArg
import Derived.Laws.MakeOwn
import Derived.Laws.OwnMore
import Derived.Deep.OwnRows
import Derived.Tactics
import Derived.Lib.ConvBytes
import Derived.Laws.Slices
import Derived.WalkKit
import Derived.KernelRfl
import Derived.RowKit3
import Derived.Deep.LoopGhost
import Derived.Deep.QuietTactic
import Derived.BigQuiet
import Derived.WideLaws
import Derived.Deep.DeepCutAuto
import Derived.Deep.CutBlock
import Derived.Deep.RegionHeld3
import Derived.Laws.Rows
import Derived.Lib.AppendStr
import Derived.ArgAppend
import Derived.Laws.IdiomCopy
import Derived.OrdersHeld
import Derived.Laws.BitsLemmas
import Derived.RowKit
import Derived.Test.YtdmgbgobfkjeiaaWWords
import Derived.Test.YtdmgbgobfkjeiaaWLast
import Derived.Test.YtdmgbgobfkjeiaaWTab
import Derived.Test.YtdmgbgobfkjeiaaWFour
import Derived.Test.YtdmgbgobfkjeiaaWQPut
import Derived.Test.YtdmgbgobfkjeiaaWApart
import Derived.Test.YtdmgbgobfkjeiaaWArr
import Derived.Test.YtdmgbgobfkjeiaaWZeros
import Derived.Test.YtdmgbgobfkjeiaaWFoot
import Derived.Test.YtdmgbgobfkjeiaaWKept
import Derived.Test.YtdmgbgobfkjeiaaWShare
import Derived.Test.YtdmgbgobfkjeiaaWN
import Derived.Test.YtdmgbgobfkjeiaaWFootNe
import Derived.Test.YtdmgbgobfkjeiaaWAt
import Derived.Test.YtdmgbgobfkjeiaaWEqStruct
import Derived.Test.YtdmgbgobfkjeiaaWRepsOne
import Derived.Test.YtdmgbgobfkjeiaaWInv
import Derived.Test.YtdmgbgobfkjeiaaWInvWords
import Derived.Test.YtdmgbgobfkjeiaaWGuard
import Derived.Test.YtdmgbgobfkjeiaaWNEv
import Derived.Test.YtdmgbgobfkjeiaaWMore
import Derived.Handy
namespace Go.Proofs.Ytdmgbgobfkjeiaa.F
open Go.RowKit Go.Proofs.YtdmgbgobfkjeiaaW.PrintWords Go.Proofs.YtdmgbgobfkjeiaaW.PrintLast Go.Proofs.YtdmgbgobfkjeiaaW.PrintMore
attribute [local go_sem] max2_int min2_int max_two min_two max_three min_three max_four min_four
set_option linter.unusedVariables false
set_option linter.unusedSimpArgs false

def errW : Option Int → Value
  | none => .nilIface
  | some c => .iface 0 (.int .i64 c)
theorem errW_none : errW none = .nilIface := rfl
theorem errW_some (c : Int) : errW (some c) = .iface 0 (.int .i64 c) := rfl

theorem info3 : (Try.prog.info? 3).map (fun i => (i.zero, i.size, i.bytes)) = some (some (.int .i64 0), 1, 8) := by kernel_rfl

theorem Am {p : Prop} (h : p) : Aside0 p := Aside0.mk h
theorem bind_named {α β : Type} {x y : α} {f : α → Option β} {r : β} (h : (some x).bind f = some r) (hy : y = x) : f y = some r := by subst hy; exact h
theorem cell_setCell_isSome (w : World) (a b : Addr) (v : Value) : ((w.setCell a v).cell? b).isSome = (w.cell? b).isSome := by
  unfold World.setCell World.cell?
  rw [Array.getElem?_modify]
  cases hh : w.heap[b.block]? with
  | none => by_cases h : a.block = b.block <;> simp [h]
  | some o =>
    by_cases h : a.block = b.block
    · cases o with
      | cells c e f =>
        cases hs : b.spot <;> cases hs2 : a.spot <;> simp [h, Array.getElem?_setIfInBounds]
        split
        · next he =>
          by_cases hb : b.off < c.size
          · simp [he, hb]
          · simp [he, hb]
        · rfl
      | _ => simp [h]
    · simp [h]

theorem isEmpty_bne (l : List UInt8) : (l != []) = !l.isEmpty := by cases l <;> rfl
theorem isEmpty_not_bne (l : List UInt8) : l.isEmpty = !(l != []) := by cases l <;> rfl
theorem own_add (a : Addr) (k n c n' c' : Nat) : (Value.slice ((some a).map (·.add k)) n c).ownBlock = (Value.slice (some a) n' c').ownBlock := by
  simp [Value.ownBlock, Addr.add]
  split <;> rfl
theorem eqb_r {a b v : Bool} (h : (a == b) = true) (ha : a = v) : b = v := by cases a <;> cases b <;> simp_all
theorem eqb_l {a b v : Bool} (h : (a == b) = true) (hb : b = v) : a = v := by cases a <;> cases b <;> simp_all
theorem neb_r {a b v : Bool} (h : (a == b) = false) (ha : a = v) : b = !v := by cases a <;> cases b <;> simp_all
theorem neb_l {a b v : Bool} (h : (a == b) = false) (hb : b = v) : a = !v := by cases a <;> cases b <;> simp_all

-- the values' own types
def rd_L1 (xs : List (List Int)) (i : Int) : (List Int) := xs.getD i.toNat ([] : List Int)
theorem at_L1 {w : World} {A : Option Addr} {n : Nat} {xs : List (List Int)} (h : Kd.C (Kd.slice 3 (Kd.int .i64)) w A n xs) (i : Int) (h0 : 0 ≤ i) (h1 : i < n) : ∃ ad A0 c0, A = some ad ∧ w.cell? (ad.add i.toNat) = some (.slice A0 (rd_L1 xs i).length c0) ∧ (rd_L1 xs i).length ≤ c0 ∧ (Kd.int .i64).C w A0 (rd_L1 xs i).length (rd_L1 xs i) := by
  obtain ⟨ad, c, e, _, hK, hc0⟩ := Kd.C_get h ([] : List Int) i h0 h1
  have hc : ∀ j u, c[j]? = some u → w.cell? (ad.add (i.toNat * 1 + j)) = some u := hc0
  obtain ⟨A0, c0, rfl, l0, g0⟩ := hK
  exact ⟨ad, A0, c0, e, by have hq := hc 0 _ rfl; rwa [Nat.mul_one, Nat.add_zero] at hq, l0, g0⟩

/-! #### struct type 31 -/
structure S31 where
  f0 : Int
  f1 : Int
  f2 : Int
def z31 : S31 := ⟨(0 : Int), (0 : Int), (0 : Int)⟩
def k31 : Kd S31 := Kd.iso (Kd.pair (Kd.int .i64) (Kd.pair (Kd.int .i64) (Kd.int .u8))) (fun x : S31 => (x.f0, x.f1, x.f2))
theorem k31_heap : Kd.Heap k31 := Kd.heap_iso _ (Kd.heap_pair (Kd.heap_int .i64) (Kd.heap_pair (Kd.heap_int .i64) (Kd.heap_int .u8)))
theorem k31_open {w : World} {x : S31} {cs : List Value} (h : k31.K w x cs) : cs = [.int .i64 x.f0, .int .i64 x.f1, .int .u8 x.f2] := by
  obtain ⟨_, _, rfl, rfl, ⟨_, _, rfl, rfl, rfl⟩⟩ := h
  exact rfl
theorem k31_openM {w : World} {base : Nat} {ok : Nat → Prop} {x : S31} {cs : List Value} (h : k31.M w base ok x cs) : cs = [.int .i64 x.f0, .int .i64 x.f1, .int .u8 x.f2] := by
  obtain ⟨_, _, rfl, rfl, ⟨_, _, rfl, rfl, rfl⟩⟩ := h
  exact rfl
theorem k31_mk (w : World) (x : S31)  : k31.K w x [.int .i64 x.f0, .int .i64 x.f1, .int .u8 x.f2] := ⟨[.int .i64 x.f0], [.int .i64 x.f1, .int .u8 x.f2], rfl, rfl, ⟨[.int .i64 x.f1], [.int .u8 x.f2], rfl, rfl, rfl⟩⟩
theorem k31_mkM (w : World) (base : Nat) (ok : Nat → Prop) (x : S31)  : k31.M w base ok x [.int .i64 x.f0, .int .i64 x.f1, .int .u8 x.f2] := ⟨[.int .i64 x.f0], [.int .i64 x.f1, .int .u8 x.f2], rfl, rfl, ⟨[.int .i64 x.f1], [.int .u8 x.f2], rfl, rfl, rfl⟩⟩
theorem k31_mkF (W : World) (ok : Nat → Prop) (x : S31) : Kd.FK k31 W ok x [.int .i64 x.f0, .int .i64 x.f1, .int .u8 x.f2] := fun W2 _ => k31_mk W2 x
def rd_T31 (xs : List S31) (i : Int) : S31 := xs.getD i.toNat z31
theorem at_T31 {w : World} {A : Option Addr} {n : Nat} {xs : List S31} (h : Kd.C k31 w A n xs) (i : Int) (h0 : 0 ≤ i) (h1 : i < n) : ∃ ad , A = some ad ∧ w.cell? (ad.add (i.toNat * 3)) = some (.int .i64 (rd_T31 xs i).f0) ∧ w.cell? ⟨(ad.add (i.toNat * 3)).block, (ad.add (i.toNat * 3)).off + 1, none⟩ = some (.int .i64 (rd_T31 xs i).f1) ∧ w.cell? ⟨(ad.add (i.toNat * 3)).block, (ad.add (i.toNat * 3)).off + 2, none⟩ = some (.int .u8 (rd_T31 xs i).f2) := by
  obtain ⟨ad, c, e, _, hK, hc0⟩ := Kd.C_get h z31 i h0 h1
  have hc : ∀ j u, c[j]? = some u → w.cell? (ad.add (i.toNat * 3 + j)) = some u := hc0
  obtain rfl := k31_open hK
  exact ⟨ad, e, hc 0 _ rfl, by rw [← add_field _ _ 1 (by omega)]; exact hc 1 _ rfl, by rw [← add_field _ _ 2 (by omega)]; exact hc 2 _ rfl⟩

end Go.Proofs.Ytdmgbgobfkjeiaa.F
