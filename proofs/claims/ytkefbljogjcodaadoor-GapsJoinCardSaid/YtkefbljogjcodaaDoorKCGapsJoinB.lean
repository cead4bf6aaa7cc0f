import Derived.Test.YtkefbljogjcodaaDoorKCGapsJoinA
import Derived.Below
import Derived.Deep.Draws
import Derived.Deep.AppendLies
import Derived.Maps.AppendAt
import Derived.OwnWalk
import Derived.Laws.BytesArg
import Derived.Laws.MakeOwn
import Derived.Laws.OwnMore
import Derived.Deep.OwnRows
import Derived.Tactics
import Derived.Lib.ConvBytes
import Derived.Laws.Slices
import Derived.WalkKit
import Derived.KernelRfl
import Derived.RowKit3
import Derived.Deep.LoopGhost
import Derived.Deep.QuietTactic
import Derived.BigQuiet
import Derived.WideLaws
import Derived.Deep.DeepCutAuto
import Derived.Deep.CutBlock
import Derived.Deep.RegionHeld3
import Derived.Laws.Rows
import Derived.Lib.AppendStr
import Derived.ArgAppend
import Derived.Laws.IdiomCopy
import Derived.RowKit
import Derived.OrdersHeld
import Derived.Laws.BitsLemmas
import Derived.Laws.StructEq
import Derived.Test.YtkefbljogjcodaaDoorProg
import Derived.Handy
import Derived.Shelf.Unicode.DecodeSlow
import Derived.Ground.NamesProg
import Derived.Shelf.Unicode.ValidAny
section
namespace Go.Proofs.YtkefbljogjcodaaDoor.F
open Go.RowKit Go.Proofs.YtkefbljogjcodaaDoorW.PrintWords Go.Proofs.YtkefbljogjcodaaDoorW.PrintLast Go.Proofs.YtkefbljogjcodaaDoorW.PrintMore
attribute [local go_sem] max2_int min2_int max_two min_two max_three min_three max_four min_four
set_option linter.unusedVariables false
set_option linter.unusedSimpArgs false
def errW : Option Int → Value
  | none => .nilIface
  | some c => .iface 0 (.int .i64 c)
theorem errW_none : errW none = .nilIface := rfl
theorem errW_some (c : Int) : errW (some c) = .iface 0 (.int .i64 c) := rfl
theorem info4 : (Tryd.prog.info? 4).map (fun i => (i.zero, i.size, i.bytes)) = some (some (.bool false), 1, 1) := by kernel_rfl
theorem info5 : (Tryd.prog.info? 5).map (fun i => (i.zero, i.size, i.bytes)) = some (some (.int .u8 0), 1, 1) := by kernel_rfl
theorem info9 : (Tryd.prog.info? 9).map (fun i => (i.zero, i.size, i.bytes)) = some (some (.string ⟨#[]⟩), 1, 16) := by kernel_rfl
theorem info21 : (Tryd.prog.info? 21).map (fun i => (i.zero, i.size, i.bytes)) = some (some (.int .i32 0), 1, 4) := by kernel_rfl
theorem info26 : (Tryd.prog.info? 26).map (fun i => (i.zero, i.size, i.bytes)) = some (some (.agg #[(.int .i64 0), (.int .i64 0), (.string ⟨#[]⟩)]), 3, 32) := by kernel_rfl
theorem Am {p : Prop} (h : p) : Aside0 p := Aside0.mk h
theorem bind_named {α β : Type} {x y : α} {f : α → Option β} {r : β} (h : (some x).bind f = some r) (hy : y = x) : f y = some r := by subst hy; exact h
theorem cell_setCell_isSome (w : World) (a b : Addr) (v : Value) : ((w.setCell a v).cell? b).isSome = (w.cell? b).isSome := by
  unfold World.setCell World.cell?
  rw [Array.getElem?_modify]
  cases hh : w.heap[b.block]? with
  | none => by_cases h : a.block = b.block <;> simp [h]
  | some o =>
    by_cases h : a.block = b.block
    · cases o with
      | cells c e f =>
        cases hs : b.spot <;> cases hs2 : a.spot <;> simp [h, Array.getElem?_setIfInBounds]
        split
        · next he =>
          by_cases hb : b.off < c.size
          · simp [he, hb]
          · simp [he, hb]
        · rfl
      | _ => simp [h]
    · simp [h]
theorem isEmpty_bne (l : List UInt8) : (l != []) = !l.isEmpty := by cases l <;> rfl
theorem eqb_r {a b v : Bool} (h : (a == b) = true) (ha : a = v) : b = v := by cases a <;> cases b <;> simp_all
theorem eqb_l {a b v : Bool} (h : (a == b) = true) (hb : b = v) : a = v := by cases a <;> cases b <;> simp_all
theorem neb_r {a b v : Bool} (h : (a == b) = false) (ha : a = v) : b = !v := by cases a <;> cases b <;> simp_all
theorem neb_l {a b v : Bool} (h : (a == b) = false) (hb : b = v) : a = !v := by cases a <;> cases b <;> simp_all
structure S26 where
  f0 : Int
  f1 : Int
  f2 : ByteArray
def z26 : S26 := ⟨(0 : Int), (0 : Int), (⟨#[]⟩ : ByteArray)⟩
def k26 : Kd S26 := Kd.iso (Kd.pair (Kd.int .i64) (Kd.pair (Kd.int .i64) Kd.string)) (fun x : S26 => (x.f0, x.f1, x.f2))
theorem k26_open {w : World} {x : S26} {cs : List Value} (h : k26.K w x cs) : cs = [.int .i64 x.f0, .int .i64 x.f1, .string x.f2] := by
  obtain ⟨_, _, rfl, rfl, ⟨_, _, rfl, rfl, rfl⟩⟩ := h
  exact rfl
theorem k26_mkM (w : World) (base : Nat) (ok : Nat → Prop) (x : S26)  : k26.M w base ok x [.int .i64 x.f0, .int .i64 x.f1, .string x.f2] := ⟨[.int .i64 x.f0], [.int .i64 x.f1, .string x.f2], rfl, rfl, ⟨[.int .i64 x.f1], [.string x.f2], rfl, rfl, rfl⟩⟩
def rd_T26 (xs : List S26) (i : Int) : S26 := xs.getD i.toNat z26
theorem at_T26 {w : World} {A : Option Addr} {n : Nat} {xs : List S26} (h : Kd.C k26 w A n xs) (i : Int) (h0 : 0 ≤ i) (h1 : i < n) : ∃ ad , A = some ad ∧ w.cell? (ad.add (i.toNat * 3)) = some (.int .i64 (rd_T26 xs i).f0) ∧ w.cell? ⟨(ad.add (i.toNat * 3)).block, (ad.add (i.toNat * 3)).off + 1, none⟩ = some (.int .i64 (rd_T26 xs i).f1) ∧ w.cell? ⟨(ad.add (i.toNat * 3)).block, (ad.add (i.toNat * 3)).off + 2, none⟩ = some (.string (rd_T26 xs i).f2) := by
  obtain ⟨ad, c, e, _, hK, hc0⟩ := Kd.C_get h z26 i h0 h1
  have hc : ∀ j u, c[j]? = some u → w.cell? (ad.add (i.toNat * 3 + j)) = some u := hc0
  obtain rfl := k26_open hK
  exact ⟨ad, e, hc 0 _ rfl, by rw [← add_field _ _ 1 (by omega)]; exact hc 1 _ rfl, by rw [← add_field _ _ 2 (by omega)]; exact hc 2 _ rfl⟩
structure S22 where
  f0 : Int
  f1 : Int
def k22 : Kd S22 := Kd.iso (Kd.pair (Kd.int .u8) (Kd.int .u8)) (fun x : S22 => (x.f0, x.f1))
end Go.Proofs.YtkefbljogjcodaaDoor.F
end
section
namespace Go.Proofs.YtkefbljogjcodaaDoor.F
open Go.RowKit Go.Proofs.YtkefbljogjcodaaDoorW.PrintWords Go.Proofs.YtkefbljogjcodaaDoorW.PrintLast Go.Proofs.YtkefbljogjcodaaDoorW.PrintMore
set_option linter.unusedVariables false
set_option linter.unusedSimpArgs false
theorem zB {P Q : Prop} (h : Aside0 P) (f : P → Q := by intro h_; repeat (first | (with_reducible first | exact h_ | apply below_alloc | apply pw_below_drewN | apply below_drew1 | refine below_set ?_ (Aside0.out (by assumption))) | exact h_)) : Q := f h.out
theorem zR {P Q : Prop} (h : Aside0 P) (f : P → Q := by intro h_; (with_reducible repeat (first | apply Kd.R_alloc | apply Kd.R_drewN | apply Kd.R_drew)); exact h_) : Q := f h.out
theorem zV {P Q : Prop} (h : Aside0 P) (f : P → Q := by intro h_; (with_reducible repeat (first | apply Kd.V_alloc | apply Kd.V_drewN | apply Kd.V_drew)); exact h_) : Q := f h.out
theorem zK {P Q : Prop} (h : Aside0 P) (f : P → Q := by intro h_; (repeat (with_reducible first | refine blk_drewN ?_ _ | refine blk_drew ?_ | refine blk_alloc ?_ _ | refine blk_far ?_ (Aside0.out (by assumption)) _)); exact h_) : Q := f h.out
theorem zE {Q : Prop} (f : Q := by (try simp only [List.map_toArray, List.map_cons, List.map_nil]); first | done | rfl | (simp only [List.length_drop, List.length_take]; rfl)) : Q := f
theorem zF {Q : Prop} (f : Q := by first | rfl | (simp [errW_none, errW_some] <;> rfl) | (simp [*, errW_none, errW_some] <;> rfl)) : Q := f
theorem zG {Q : Prop} (f : Q := by first | rfl | (simp; done) | (simp [*]; done) | (simp [isEmpty_bne]; done)) : Q := f
theorem zI {P Q : Prop} (h : P) (f : P → Q := by intro h_; repeat (first | exact h_ | (with_reducible refine Kd.C_alloc ?_ _) | (with_reducible refine Kd.C_drewN ?_ _) | (with_reducible refine Kd.C_drew ?_))) : Q := f h
theorem zN {P Q : Prop} (h : P) (f : P → Q := by intro h_; first | (rw [add_block]; exact h_) | (show (Addr.add _ _).block ≠ _; rw [add_block]; exact h_) | exact h_) : Q := f h
theorem zD {Q : Prop} (f : Q := by repeat (first | exact Drawn0.refl _ | apply Drawn0.step)) : Q := f
theorem zS : (∀ (l : List Value) (i : Nat) (a : Value), l.toArray.setIfInBounds i a = (l.set i a).toArray) ∧ (∀ (x a : Value) (l : List Value), (x :: l).set 0 a = a :: l) ∧ (∀ (x a : Value) (l : List Value) (i : Nat), (x :: l).set (i + 1) a = x :: l.set i a) := ⟨fun _ _ _ => List.setIfInBounds_toArray .., fun _ _ _ => rfl, fun _ _ _ _ => rfl⟩
theorem zY {α : Type} {d : Kd α} {e : TypeId} {W : World} {base : Nat} {ok : Nat → Prop} {v : Value} {xs : List α} (h : d.R e W base ok v xs) (g : Nat) (hk : ∀ k, ok k → k ≠ g) (a b c : Value) : d.R e (((W.setCell ⟨g, 0, none⟩ a).setCell ⟨g, 1, none⟩ b).setCell ⟨g, 2, none⟩ c) base ok v xs := Kd.R_far (p := ⟨g, 2, none⟩) (Kd.R_far (p := ⟨g, 1, none⟩) (Kd.R_far (p := ⟨g, 0, none⟩) h hk a) hk b) hk c
theorem zU {w0 W w1 : World} {g : Nat} {o : Obj} (h : Aside0 (w0.heap[g]? = some o)) (hb : Below W.heap.size W w1) (f : w0.heap[g]? = some o → W.heap[g]? = some o := by intro h_; (repeat (with_reducible first | refine blk_drewN ?_ _ | refine blk_drew ?_ | refine blk_alloc ?_ _ | refine blk_far ?_ (Aside0.out (by assumption)) _)); exact h_) : w1.heap[g]? = some o := blk_below (f h.out) hb
theorem zW {w0 W w1 : World} {g : Nat} {o : Obj} {row : Option Nat} (h : Aside0 (w0.heap[g]? = some o)) (hg : W.grownBy w1 row) (hne : some g ≠ row) (f : w0.heap[g]? = some o → W.heap[g]? = some o := by intro h_; (repeat (with_reducible first | refine blk_drewN ?_ _ | refine blk_drew ?_ | refine blk_alloc ?_ _ | refine blk_far ?_ (Aside0.out (by assumption)) _)); exact h_) : w1.heap[g]? = some o := blk_grown (f h.out) hg hne
theorem zL {w0 W : World} {g : Nat} {o : Obj} (h : Aside0 (w0.heap[g]? = some o)) (f : w0.heap[g]? = some o → W.heap[g]? = some o := by intro h_; (repeat (with_reducible first | refine blk_drewN ?_ _ | refine blk_drew ?_ | refine blk_alloc ?_ _ | refine blk_far ?_ (Aside0.out (by assumption)) _)); exact h_) : g < W.heap.size := blk_lt (f h.out)
theorem zc2 {w : World} {g : Nat} {t : TypeId} {a b : Value} (h : Aside0 (w.heap[g]? = some (.cells #[a, b] t (0, 0)))) : w.cell? ⟨g, 0, none⟩ = some a ∧ w.cell? ⟨g, 1, none⟩ = some b ∧ w.frozen? ⟨g, 0, none⟩ = false ∧ w.frozen? ⟨g, 1, none⟩ = false := ⟨(blk_cell h.out 0).trans rfl, (blk_cell h.out 1).trans rfl, blk_frozen h.out 0, blk_frozen h.out 1⟩
theorem zc3 {w : World} {g : Nat} {t : TypeId} {a b c : Value} (h : Aside0 (w.heap[g]? = some (.cells #[a, b, c] t (0, 0)))) : w.cell? ⟨g, 0, none⟩ = some a ∧ w.cell? ⟨g, 1, none⟩ = some b ∧ w.cell? ⟨g, 2, none⟩ = some c ∧ w.frozen? ⟨g, 0, none⟩ = false ∧ w.frozen? ⟨g, 1, none⟩ = false ∧ w.frozen? ⟨g, 2, none⟩ = false := ⟨(blk_cell h.out 0).trans rfl, (blk_cell h.out 1).trans rfl, (blk_cell h.out 2).trans rfl, blk_frozen h.out 0, blk_frozen h.out 1, blk_frozen h.out 2⟩
theorem zO {a : Nat} {P : Prop} {w W : World} (h : Aside0 P) (hg : a = W.heap.size) (f : P → Below w.heap.size w W := by intro h_; repeat (first | (with_reducible first | exact h_ | apply below_alloc | apply pw_below_drewN | apply below_drew1 | refine below_set ?_ (Aside0.out (by assumption))) | exact h_)) : w.heap.size ≤ a := by rw [hg]; exact below_size (f h.out)
theorem zr {α β : Type} {d : Kd α} {d' : Kd β} {e e' : TypeId} {W0 W w1 w2 : World} {base : Nat} {ok ok' : Nat → Prop} {u v : Value} {xs : List α} {ys : List β} (hu : Aside0 (d.R e W0 base ok u xs)) (ho : d'.R e' w2 W.heap.size ok' v ys) (hb : Below W.heap.size W w1) (f : d.R e W0 base ok u xs → d.R e W base ok u xs := by intro h_; (with_reducible repeat (first | apply Kd.R_alloc | apply Kd.R_drewN | apply Kd.R_drew)); exact h_) : d.R e w1 base (fun k => ok k ∧ some k ≠ v.ownBlock) u xs := Kd.R_elder' (f hu.out) (Kd.R_base ho) hb
theorem zn {α β : Type} {d : Kd α} {d' : Kd β} {e e' : TypeId} {W0 W w1 : World} {base' : Nat} {ok ok' : Nat → Prop} {u v : Value} {xs : List α} {ys : List β} (h : d.R e w1 W.heap.size ok v xs) (g : Aside0 (d'.R e' W0 base' ok' u ys)) (f : d'.R e' W0 base' ok' u ys → d'.R e' W base' ok' u ys := by intro h_; (with_reducible repeat (first | apply Kd.R_alloc | apply Kd.R_drewN | apply Kd.R_drew)); exact h_) : d.R e w1 W.heap.size (fun k => ok k ∧ some k ≠ u.ownBlock) v xs := Kd.R_new' h (Kd.R_lt (f g.out))
theorem zput {w : World} {g : Nat} {t : TypeId} {cs cs' : Array Value} {i : Nat} {u : Value} (h : w.heap[g]? = some (.cells cs t (0, 0))) (e : cs.setIfInBounds i u = cs') : (w.setCell ⟨g, i, none⟩ u).heap[g]? = some (.cells cs' t (0, 0)) := blk_put h i u e
theorem zfar {w : World} {g : Nat} {t : TypeId} {cs : Array Value} {p : Addr} (hp : Aside0 (g ≠ p.block)) (h : w.heap[g]? = some (.cells cs t (0, 0))) (u : Value) : (w.setCell p u).heap[g]? = some (.cells cs t (0, 0)) := blk_far h hp.out u
theorem zP {P Q : Prop} (h : Aside0 P) (f : P → Q := by intro h_; (repeat (with_reducible first | refine blk_drewN ?_ _ | refine blk_drew ?_ | refine blk_alloc ?_ _ | (apply zfar; assumption) | apply zput)); exact h_; all_goals rfl) : Q := f h.out
theorem zm {w0 W : World} {g : Nat} {o : Obj} (h : Aside0 (w0.heap[g]? = some o)) (k : Nat) (hk : W.heap.size ≤ k) (f : w0.heap[g]? = some o → W.heap[g]? = some o := by intro h_; (repeat (with_reducible first | refine blk_drewN ?_ _ | refine blk_drew ?_ | refine blk_alloc ?_ _ | refine blk_far ?_ (Aside0.out (by assumption)) _)); exact h_) : k ≠ g := Kd.freshB (f h.out) k hk
theorem zg {P Q R : Prop} (h : Aside0 P) (b : Aside0 Q) (f : P → Q → R := by intro h_ b_; first | (with_reducible exact h_) | (refine Glob.below h_ ?_; repeat (first | (with_reducible first | exact b_ | apply below_alloc | apply pw_below_drewN | apply below_drew1 | refine below_set ?_ (Aside0.out (by assumption))) | exact b_)) | (refine Glob.drawn h_ ?_; repeat (first | exact Drawn0.refl _ | apply Drawn0.step))) : R := f h.out b.out
theorem zv {α : Type} {d : Kd α} {e e' : TypeId} {W0 W : World} {base base' : Nat} {ok ok' : Nat → Prop} {v : Value} {xs : List α} (h : Aside0 (Kd.V d e W0 base ok v xs)) (f : Kd.V d e W0 base ok v xs → Kd.V d e W base ok v xs := by intro h_; (with_reducible repeat (first | apply Kd.V_alloc | apply Kd.V_drewN | apply Kd.V_drew)); exact h_) (hp : ∀ k, ok k → ok' k := by intro k_ hk; (try simp only [and_assoc] at hk); (repeat (obtain ⟨_, hk⟩ := hk)); (repeat' apply And.intro) <;> (first | (with_reducible assumption) | assumption)) : Kd.V d e' W base' ok' v xs := Kd.V_mono (f h.out) hp
theorem zva {α : Type} {d : Kd α} {e : TypeId} {W0 W w1 : World} {base : Nat} {ok : Nat → Prop} {u v v1 : Value} {xs : List α} (h : Aside0 (Kd.V d e W0 base ok u xs)) (hg : W.grownBy w1 v.ownBlock) (hat : v1.ownBlock = v.ownBlock ∨ ∃ b, v1.ownBlock = some b ∧ W.heap.size ≤ b) (f : Kd.V d e W0 base ok u xs → Kd.V d e W base ok u xs := by intro h_; (with_reducible repeat (first | apply Kd.V_alloc | apply Kd.V_drewN | apply Kd.V_drew)); exact h_) (hp : ∀ k, ok k → some k ≠ v.ownBlock := by intro k_ hk; (try simp only [and_assoc] at hk); (repeat (obtain ⟨_, hk⟩ := hk)); (first | (with_reducible assumption) | assumption)) : Kd.V d e w1 base (fun k => ok k ∧ some k ≠ v1.ownBlock) u xs := Kd.V_afterv (ok := ok) (Kd.V_mono (f h.out) (fun k hk => ⟨hk, hp k hk⟩)) hg hat
theorem zp {P : Prop} (f : P := by intro k_ hk; (try simp only [and_assoc] at hk); (repeat (obtain ⟨_, hk⟩ := hk)); (repeat' apply And.intro) <;> (first | (with_reducible assumption) | assumption)) : P := f
theorem zq {ok : Nat → Prop} (g : Nat) (f : ∀ k, ok k → k ≠ g := by intro k_ hk; (try simp only [and_assoc] at hk); (repeat (obtain ⟨_, hk⟩ := hk)); (first | (with_reducible assumption) | assumption)) : ∀ k, ok k → ok k ∧ k ≠ g := fun k h => ⟨h, f k h⟩
end Go.Proofs.YtkefbljogjcodaaDoor.F
end
section
namespace Go.Proofs.YtkefbljogjcodaaDoor.F
open Go.RowKit Go.Proofs.YtkefbljogjcodaaDoorW.PrintWords Go.Proofs.YtkefbljogjcodaaDoorW.PrintLast Go.Proofs.YtkefbljogjcodaaDoorW.PrintMore
attribute [local go_sem] max2_int min2_int max_two min_two max_three min_three max_four min_four cell_setCell_isSome
set_option linter.unusedVariables false
set_option linter.unusedSimpArgs false
open Kd
mutual
def epitomeref06_Same.j0 : Nat → Bool → List ByteArray → List Bool → List ByteArray → List Bool → Option (Bool)
  | 0, _, _, _, _, _ => none
  | k + 1, x22, x102000, x102001, x103000, x103001 => if x22 = true then (some false) else (epitomeref06_Same.l0 k 0 x102000 x102001 x103000 x103001)
def epitomeref06_Same.l0 : Nat → Int → List ByteArray → List Bool → List ByteArray → List Bool → Option (Bool)
  | 0, _, _, _, _, _ => none
  | k + 1, x5, x102000, x102001, x103000, x103001 => if x5 < (x102000.length : Int) then (if 0 ≤ x5 then (if x5 < (x103000.length : Int) then (if (rdOf ByteArray.empty x102000 x5).toList = (rdOf ByteArray.empty x103000 x5).toList then (epitomeref06_Same.l0 k (wrap64 (x5 + 1)) x102000 x102001 x103000 x103001) else (some false)) else (none)) else (none)) else (epitomeref06_Same.l1 k 0 x102000 x102001 x103000 x103001)
def epitomeref06_Same.l1 : Nat → Int → List ByteArray → List Bool → List ByteArray → List Bool → Option (Bool)
  | 0, _, _, _, _, _ => none
  | k + 1, x6, x102000, x102001, x103000, x103001 => if x6 < (x102001.length : Int) then (if 0 ≤ x6 then (if x6 < (x103001.length : Int) then (if ((rdOf false x102001 x6) != (rdOf false x103001 x6)) = true then (some false) else (epitomeref06_Same.l1 k (wrap64 (x6 + 1)) x102000 x102001 x103000 x103001)) else (none)) else (none)) else (some true)
end
def epitomeref06_Same.f (k : Nat) (l0_0 : List ByteArray) (l0_1 : List Bool) (l1_0 : List ByteArray) (l1_1 : List Bool) : Option (Bool) := if (l0_0.length : Int) = (l1_0.length : Int) then (epitomeref06_Same.j0 k ((l0_1.length : Int) != (l1_1.length : Int)) l0_0 l0_1 l1_0 l1_1) else (epitomeref06_Same.j0 k true l0_0 l0_1 l1_0 l1_1)
set_option maxHeartbeats 40000000 in
set_option maxRecDepth 100000 in
theorem epitomeref06_Same.calls (k : Nat) (A0_0 : Option Addr) (c0_0 : Nat) (l0_0 : List ByteArray) (A0_1 : Option Addr) (c0_1 : Nat) (l0_1 : List Bool) (A1_0 : Option Addr) (c1_0 : Nat) (l1_0 : List ByteArray) (A1_1 : Option Addr) (c1_1 : Nat) (l1_1 : List Bool) (r : Bool) (w : World) (hr0_0 : Kd.C Kd.string w A0_0 l0_0.length l0_0) (hc0_0 : l0_0.length ≤ c0_0) (hr0_1 : Kd.C Kd.bool w A0_1 l0_1.length l0_1) (hc0_1 : l0_1.length ≤ c0_1) (hr1_0 : Kd.C Kd.string w A1_0 l1_0.length l1_0) (hc1_0 : l1_0.length ≤ c1_0) (hr1_1 : Kd.C Kd.bool w A1_1 l1_1.length l1_1) (hc1_1 : l1_1.length ≤ c1_1) (h : epitomeref06_Same.f k l0_0 l0_1 l1_0 l1_1 = some r) :
  Calls Tryd.prog 34 #[.agg #[.slice A0_0 l0_0.length c0_0, .slice A0_1 l0_1.length c0_1], .agg #[.slice A1_0 l1_0.length c1_0, .slice A1_1 l1_1.length c1_1]] w fun e w' => e = .returned (.bool r) ∧ Below w.heap.size w w' := by
 have hu49 := Tryd.underlying49
 have HR0_0 := Am hr0_0;have HC0_0 := Am hc0_0;clear hr0_0 hc0_0;have HR0_1 := Am hr0_1;have HC0_1 := Am hc0_1;clear hr0_1 hc0_1;have HR1_0 := Am hr1_0;have HC1_0 := Am hc1_0;clear hr1_0 hc1_0;have HR1_1 := Am hr1_1;have HC1_1 := Am hc1_1;clear hr1_1 hc1_1;have HB := Am (Below.refl w.heap.size w)
 have H : (if (l0_0.length : Int) = (l1_0.length : Int) then (epitomeref06_Same.j0 k ((l0_1.length : Int) != (l1_1.length : Int)) l0_0 l0_1 l1_0 l1_1) else (epitomeref06_Same.j0 k true l0_0 l0_1 l1_0 l1_1)) = some r := h
 clear h;have HC3 := Am H;clear H;go_enter Tryd.func34, Tryd.ntmps34
 go_upto_region 1 with (first | ((with_reducible refine gate_dst (N := 2) rfl ?_); (try (refine gate_guard (by rfl) ?_; dsimp only)); refine box_event ?hg (N := 2) ?hd (cs := #[.slice A0_0 l0_0.length c0_0, .slice A0_1 l0_1.length c0_1]) (t := 49) ?hr ?_; (case hd => rfl); (case hg => rfl); (case hr => first | (go_simp; done) | (go_simp; rfl)); intro gb101 hg w4 hbox hb; have BK101 := Am (hbox);have GW101 := Am (zO (w := w) HB hg);have GE101 := Am (zO (w := w) HB hg);replace HB := Am (below_step (zB HB) hb); clear hb hbox hg) | ((with_reducible refine gate_dst (N := 3) rfl ?_); (try (refine gate_guard (by rfl) ?_; dsimp only)); refine box_event ?hg (N := 3) ?hd (cs := #[.slice A1_0 l1_0.length c1_0, .slice A1_1 l1_1.length c1_1]) (t := 49) ?hr ?_; (case hd => rfl); (case hg => rfl); (case hr => first | (go_simp; done) | (go_simp; rfl)); intro gb102 hg w5 hbox hb; have BK102 := Am (hbox);have GW102 := Am (zO (w := w) HB hg);have GE102 := Am (zO (w := w) HB hg);replace HB := Am (below_step (zB HB) hb);have NB101_102 := Am ((by rw [hg]; exact Nat.ne_of_lt (zL BK101) : gb101 ≠ gb102));have NB102_101 := Am ((by rw [hg]; exact Nat.ne_of_gt (zL BK101) : gb102 ≠ gb101));replace BK101 := Am (zU BK101 hb); clear hb hbox hg))
 repeat (go_quiet (first | ((with_reducible refine gate_dst (N := 2) rfl ?_); (try (refine gate_guard (by rfl) ?_; dsimp only)); refine box_event ?hg (N := 2) ?hd (cs := #[.slice A0_0 l0_0.length c0_0, .slice A0_1 l0_1.length c0_1]) (t := 49) ?hr ?_; (case hd => rfl); (case hg => rfl); (case hr => first | (go_simp; done) | (go_simp; rfl)); intro gb101 hg w4 hbox hb; have BK101 := Am (hbox);have GW101 := Am (zO (w := w) HB hg);have GE101 := Am (zO (w := w) HB hg);replace HB := Am (below_step (zB HB) hb); clear hb hbox hg) | ((with_reducible refine gate_dst (N := 3) rfl ?_); (try (refine gate_guard (by rfl) ?_; dsimp only)); refine box_event ?hg (N := 3) ?hd (cs := #[.slice A1_0 l1_0.length c1_0, .slice A1_1 l1_1.length c1_1]) (t := 49) ?hr ?_; (case hd => rfl); (case hg => rfl); (case hr => first | (go_simp; done) | (go_simp; rfl)); intro gb102 hg w5 hbox hb; have BK102 := Am (hbox);have GW102 := Am (zO (w := w) HB hg);have GE102 := Am (zO (w := w) HB hg);replace HB := Am (below_step (zB HB) hb);have NB101_102 := Am ((by rw [hg]; exact Nat.ne_of_lt (zL BK101) : gb101 ≠ gb102));have NB102_101 := Am ((by rw [hg]; exact Nat.ne_of_gt (zL BK101) : gb102 ≠ gb101));replace BK101 := Am (zU BK101 hb); clear hb hbox hg)); go_upto_region 1 with (first | ((with_reducible refine gate_dst (N := 2) rfl ?_); (try (refine gate_guard (by rfl) ?_; dsimp only)); refine box_event ?hg (N := 2) ?hd (cs := #[.slice A0_0 l0_0.length c0_0, .slice A0_1 l0_1.length c0_1]) (t := 49) ?hr ?_; (case hd => rfl); (case hg => rfl); (case hr => first | (go_simp; done) | (go_simp; rfl)); intro gb101 hg w4 hbox hb; have BK101 := Am (hbox);have GW101 := Am (zO (w := w) HB hg);have GE101 := Am (zO (w := w) HB hg);replace HB := Am (below_step (zB HB) hb); clear hb hbox hg) | ((with_reducible refine gate_dst (N := 3) rfl ?_); (try (refine gate_guard (by rfl) ?_; dsimp only)); refine box_event ?hg (N := 3) ?hd (cs := #[.slice A1_0 l1_0.length c1_0, .slice A1_1 l1_1.length c1_1]) (t := 49) ?hr ?_; (case hd => rfl); (case hg => rfl); (case hr => first | (go_simp; done) | (go_simp; rfl)); intro gb102 hg w5 hbox hb; have BK102 := Am (hbox);have GW102 := Am (zO (w := w) HB hg);have GE102 := Am (zO (w := w) HB hg);replace HB := Am (below_step (zB HB) hb);have NB101_102 := Am ((by rw [hg]; exact Nat.ne_of_lt (zL BK101) : gb101 ≠ gb102));have NB102_101 := Am ((by rw [hg]; exact Nat.ne_of_gt (zL BK101) : gb102 ≠ gb101));replace BK101 := Am (zU BK101 hb); clear hb hbox hg)))
 (try simp only [Act.put, zS])
 go_cut [22] (fun v22 wc => ∃ (kq : Nat) (x22_2 : Bool), v22 = .bool x22_2 ∧ Aside0 (epitomeref06_Same.j0 kq x22_2 l0_0 l0_1 l1_0 l1_1 = some r) ∧ Aside0 (kq ≤ k) ∧ Aside0 (wc.heap[gb101]? = some (.cells #[(.slice A0_0 l0_0.length c0_0), (.slice A0_1 l0_1.length c0_1)] 49 (0, 0))) ∧ Aside0 (wc.heap[gb102]? = some (.cells #[(.slice A1_0 l1_0.length c1_0), (.slice A1_1 l1_1.length c1_1)] 49 (0, 0))) ∧ Aside0 (Below w.heap.size w wc))
 case first =>
  have H := HC3.out;clear HC3;by_cases c6 : (l0_0.length : Int) = (l1_0.length : Int)
  ·rw [if_pos c6] at H;have c6b0 : ((l0_0.length : Int) == (l1_0.length : Int)) = true := beq_iff_eq.mpr c6
   have c6b1 : ((l0_0.length : Int) != (l1_0.length : Int)) = false := bne_eq_false_iff_eq.mpr c6
   have c6b2 : (l0_0.length == l1_0.length) = true := by first | simpa using c6 | (simp at c6 ⊢; omega)
   clear c6;(first | rw [c6b0] | (simp only [i64_w, i32_w]; rw [c6b0]) | skip)
   have H' := Am H
   clear H;have hnb7 := NB101_102.out;have hnc7 := NB102_101.out;obtain ⟨hcz8_0, hcz8_1, hfz8_0, hfz8_1⟩ := zc2 BK101;obtain ⟨hcz9_0, hcz9_1, hfz9_0, hfz9_1⟩ := zc2 BK102;go_wp2
   repeat (go_quiet (fail); try go_wp2)
   go_meet
   case rel => exact ⟨_, (((l0_1.length : Int) != (l1_1.length : Int))), zG, H', ⟨by first | omega | exact Nat.le_refl _⟩, ⟨(zK BK101)⟩, ⟨(zK BK102)⟩, ⟨(zB HB)⟩⟩
  ·rw [if_neg c6] at H;have c6b0 : ((l0_0.length : Int) == (l1_0.length : Int)) = false := beq_eq_false_iff_ne.mpr c6
   have c6b1 : ((l0_0.length : Int) != (l1_0.length : Int)) = true := bne_iff_ne.mpr c6
   have c6b2 : (l0_0.length == l1_0.length) = false := by first | simpa using c6 | (simp at c6 ⊢; omega)
   (first | rw [c6b0] | (simp only [i64_w, i32_w]; rw [c6b0]) | skip)
   have H' := Am H
   clear H;have hnb10 := NB101_102.out;have hnc10 := NB102_101.out;obtain ⟨hcz11_0, hcz11_1, hfz11_0, hfz11_1⟩ := zc2 BK101;obtain ⟨hcz12_0, hcz12_1, hfz12_0, hfz12_1⟩ := zc2 BK102;go_wp2
   repeat (go_quiet (fail); try go_wp2)
   go_meet
   case rel => exact ⟨_, (true), zG, H', ⟨by first | omega | exact Nat.le_refl _⟩, ⟨(zK BK101)⟩, ⟨(zK BK102)⟩, ⟨(zB HB)⟩⟩
 case rest =>
  clear HC3;(try clear c1);(try clear p2);(try clear c3);(try clear c6);(try clear c6b0);(try clear c6b1);(try clear c6b2);(try clear c7);(try clear c10);(try clear hcz11_0);(try clear hcz11_1);(try clear hcz12_0);(try clear hcz12_1);(try clear hcz8_0);(try clear hcz8_1);(try clear hcz9_0);(try clear hcz9_1);(try clear hfz11_0);(try clear hfz11_1);(try clear hfz12_0);(try clear hfz12_1);(try clear hfz8_0);(try clear hfz8_1);(try clear hfz9_0);(try clear hfz9_1);obtain ⟨kq, x22_2, rfl, HA, HJ2, BK101, BK102, HB⟩ := hcut
  cases kq with
  | zero => exact absurd HA.out (by simp [epitomeref06_Same.j0])
  | succ kj2 =>
   have H := HA.out;clear HA;simp only [epitomeref06_Same.j0] at H
   by_cases c13 : x22_2 = true
   ·subst c13
    have H1 : (some false) = some r := by rw [if_pos rfl] at H; exact H
    clear H;have H := H1
    clear H1;obtain rfl := Option.some.inj H;go_wp2
    repeat (go_quiet (fail); try go_wp2)
    go_ret
    exact ⟨zF, (zB HB)⟩
   ·replace c13 := Bool.eq_false_iff.mpr c13
    subst c13
    have H1 : (epitomeref06_Same.l0 kj2 0 l0_0 l0_1 l1_0 l1_1) = some r := by rw [if_neg (show ¬ (false = true) by decide)] at H; exact H
    clear H;have H := H1
    clear H1;have H' := Am H
    clear H;go_wp2
    repeat (go_quiet (fail); try go_wp2)
    go_loopg [5] kj2 (fun kq v5 w' => ∃ (x5_2 : Int), v5 = .int .i64 x5_2 ∧ Aside0 (epitomeref06_Same.l0 kq x5_2 l0_0 l0_1 l1_0 l1_1 = some r) ∧ Aside0 (kq ≤ kj2) ∧ Aside0 (w'.heap[gb101]? = some (.cells #[(.slice A0_0 l0_0.length c0_0), (.slice A0_1 l0_1.length c0_1)] 49 (0, 0))) ∧ Aside0 (w'.heap[gb102]? = some (.cells #[(.slice A1_0 l1_0.length c1_0), (.slice A1_1 l1_1.length c1_1)] 49 (0, 0))) ∧ Aside0 (Below w.heap.size w w'))
    case atStart => exact ⟨(0), zG, H', ⟨Nat.le_refl _⟩, ⟨(zK BK101)⟩, ⟨(zK BK102)⟩, ⟨(zB HB)⟩⟩
    case round =>
     clear H';(try clear c1);(try clear p2);(try clear c3);(try clear c6);(try clear c6b0);(try clear c6b1);(try clear c6b2);(try clear c7);(try clear c10);(try clear c13);(try clear hcz11_0);(try clear hcz11_1);(try clear hcz12_0);(try clear hcz12_1);(try clear hcz8_0);(try clear hcz8_1);(try clear hcz9_0);(try clear hcz9_1);(try clear hfz11_0);(try clear hfz11_1);(try clear hfz12_0);(try clear hfz12_1);(try clear hfz8_0);(try clear hfz8_1);(try clear hfz9_0);(try clear hfz9_1);(try clear p2);obtain ⟨x5_2, rfl, HA, HK2, BK101, BK102, HB⟩ := hrel
     cases gk with
     | zero => exact absurd HA.out (by simp [epitomeref06_Same.l0])
     | succ k2 =>
      have H := HA.out;clear HA;simp only [epitomeref06_Same.l0] at H
      by_cases c14 : x5_2 < (l0_0.length : Int)
      ·rw [if_pos c14] at H;have c14b0 : decide (x5_2 < (l0_0.length : Int)) = true := decide_eq_true c14
       clear c14;by_cases c15 : 0 ≤ x5_2
       ·rw [if_pos c15] at H;have c15b0 : decide (0 ≤ x5_2) = true := decide_eq_true c15
        clear c15;by_cases c16 : x5_2 < (l1_0.length : Int)
        ·rw [if_pos c16] at H;have c16b0 : decide (x5_2 < (l1_0.length : Int)) = true := decide_eq_true c16
         clear c16;by_cases c17 : (rdOf ByteArray.empty l0_0 x5_2).toList = (rdOf ByteArray.empty l1_0 x5_2).toList
         ·rw [if_pos c17] at H;have c17b0 : ((rdOf ByteArray.empty l0_0 x5_2).toList == (rdOf ByteArray.empty l1_0 x5_2).toList) = true := beq_iff_eq.mpr c17
          have c17b1 : ((rdOf ByteArray.empty l0_0 x5_2).toList != (rdOf ByteArray.empty l1_0 x5_2).toList) = false := bne_eq_false_iff_eq.mpr c17
          clear c17;have H' := Am H
          clear H;have hnb18 := NB101_102.out;have hnc18 := NB102_101.out;obtain ⟨hcz19_0, hcz19_1, hfz19_0, hfz19_1⟩ := zc2 BK101;have p103 : 0 ≤ (x5_2 : Int) := of_decide_eq_true (by assumption)
          have q103 : x5_2 < (l0_0.length : Int) := of_decide_eq_true (by assumption)
          obtain ⟨ad103, e103, hx103_0⟩ := Kd.at_string HR0_0.out x5_2 p103 q103
          cases e103
          replace hx103_0 := (HB.out.cell (World.block_lt_of_cell? w _ hx103_0)).trans hx103_0
          replace p103 := eq_true p103;replace q103 := eq_true q103;obtain ⟨hcz20_0, hcz20_1, hfz20_0, hfz20_1⟩ := zc2 BK102;have p104 : 0 ≤ (x5_2 : Int) := of_decide_eq_true (by assumption)
          have q104 : x5_2 < (l1_0.length : Int) := of_decide_eq_true (by assumption)
          obtain ⟨ad104, e104, hx104_0⟩ := Kd.at_string HR1_0.out x5_2 p104 q104
          cases e104
          replace hx104_0 := (HB.out.cell (World.block_lt_of_cell? w _ hx104_0)).trans hx104_0
          replace p104 := eq_true p104;replace q104 := eq_true q104;go_wp2
          repeat (go_quiet (fail); try go_wp2)
          go_roundg k2
          case measure => have := HJ2.out; have := HK2.out; omega
          case rel => exact ⟨(wrap64 (x5_2 + 1)), zG, H', ⟨by have := HJ2.out; have := HK2.out; omega⟩, ⟨(zK BK101)⟩, ⟨(zK BK102)⟩, ⟨(zB HB)⟩⟩
         ·rw [if_neg c17] at H;have c17b0 : ((rdOf ByteArray.empty l0_0 x5_2).toList == (rdOf ByteArray.empty l1_0 x5_2).toList) = false := beq_eq_false_iff_ne.mpr c17
          have c17b1 : ((rdOf ByteArray.empty l0_0 x5_2).toList != (rdOf ByteArray.empty l1_0 x5_2).toList) = true := bne_iff_ne.mpr c17
          obtain rfl := Option.some.inj H;have hnb21 := NB101_102.out;have hnc21 := NB102_101.out;obtain ⟨hcz22_0, hcz22_1, hfz22_0, hfz22_1⟩ := zc2 BK101;have p103 : 0 ≤ (x5_2 : Int) := of_decide_eq_true (by assumption)
          have q103 : x5_2 < (l0_0.length : Int) := of_decide_eq_true (by assumption)
          obtain ⟨ad103, e103, hx103_0⟩ := Kd.at_string HR0_0.out x5_2 p103 q103
          cases e103
          replace hx103_0 := (HB.out.cell (World.block_lt_of_cell? w _ hx103_0)).trans hx103_0
          replace p103 := eq_true p103;replace q103 := eq_true q103;obtain ⟨hcz23_0, hcz23_1, hfz23_0, hfz23_1⟩ := zc2 BK102;have p104 : 0 ≤ (x5_2 : Int) := of_decide_eq_true (by assumption)
          have q104 : x5_2 < (l1_0.length : Int) := of_decide_eq_true (by assumption)
          obtain ⟨ad104, e104, hx104_0⟩ := Kd.at_string HR1_0.out x5_2 p104 q104
          cases e104
          replace hx104_0 := (HB.out.cell (World.block_lt_of_cell? w _ hx104_0)).trans hx104_0
          replace p104 := eq_true p104;replace q104 := eq_true q104;go_wp2
          repeat (go_quiet (fail); try go_wp2)
          go_ret
          exact ⟨zF, (zB HB)⟩
        ·rw [if_neg c16] at H;exact absurd H (by simp)
       ·rw [if_neg c15] at H;exact absurd H (by simp)
      ·rw [if_neg c14] at H;have c14b0 : decide (x5_2 < (l0_0.length : Int)) = false := decide_eq_false c14
       clear c14;have H' := Am H
       clear H;have hnb24 := NB101_102.out;have hnc24 := NB102_101.out;obtain ⟨hcz25_0, hcz25_1, hfz25_0, hfz25_1⟩ := zc2 BK101;go_wp2
       repeat (go_quiet (fail); try go_wp2)
       go_loopg [6] k2 (fun kq v6 w' => ∃ (x6_3 : Int), v6 = .int .i64 x6_3 ∧ Aside0 (epitomeref06_Same.l1 kq x6_3 l0_0 l0_1 l1_0 l1_1 = some r) ∧ Aside0 (kq ≤ k2) ∧ Aside0 (w'.heap[gb101]? = some (.cells #[(.slice A0_0 l0_0.length c0_0), (.slice A0_1 l0_1.length c0_1)] 49 (0, 0))) ∧ Aside0 (w'.heap[gb102]? = some (.cells #[(.slice A1_0 l1_0.length c1_0), (.slice A1_1 l1_1.length c1_1)] 49 (0, 0))) ∧ Aside0 (Below w.heap.size w w'))
       case atStart => exact ⟨(0), zG, H', ⟨Nat.le_refl _⟩, ⟨(zK BK101)⟩, ⟨(zK BK102)⟩, ⟨(zB HB)⟩⟩
       case round =>
        clear H';(try clear c1);(try clear p1);(try clear q1);(try clear hx1);(try clear c2);(try clear p2);(try clear c3);(try clear c6);(try clear c6b0);(try clear c6b1);(try clear c6b2);(try clear p6);(try clear c7);(try clear c10);(try clear p10);(try clear q10);(try clear hx10);(try clear c13);(try clear c14);(try clear c14b0);(try clear c15);(try clear c15b0);(try clear c16);(try clear c16b0);(try clear c17);(try clear c17b0);(try clear c17b1);(try clear c18);(try clear c21);(try clear c24);(try clear hcz11_0);(try clear hcz11_1);(try clear hcz12_0);(try clear hcz12_1);(try clear hcz19_0);(try clear hcz19_1);(try clear hcz20_0);(try clear hcz20_1);(try clear hcz22_0);(try clear hcz22_1);(try clear hcz23_0);(try clear hcz23_1);(try clear hcz25_0);(try clear hcz25_1);(try clear hcz8_0);(try clear hcz8_1);(try clear hcz9_0);(try clear hcz9_1);(try clear hfz11_0);(try clear hfz11_1);(try clear hfz12_0);(try clear hfz12_1);(try clear hfz19_0);(try clear hfz19_1);(try clear hfz20_0);(try clear hfz20_1);(try clear hfz22_0);(try clear hfz22_1);(try clear hfz23_0);(try clear hfz23_1);(try clear hfz25_0);(try clear hfz25_1);(try clear hfz8_0);(try clear hfz8_1);(try clear hfz9_0);(try clear hfz9_1);(try clear hx103_0);(try clear hx104_0);(try clear p103);(try clear p104);(try clear p2);(try clear q103);(try clear q104);obtain ⟨x6_3, rfl, HA, HK3, BK101, BK102, HB⟩ := hrel
        cases gk with
        | zero => exact absurd HA.out (by simp [epitomeref06_Same.l1])
        | succ k3 =>
         have H := HA.out;clear HA;simp only [epitomeref06_Same.l1] at H
         by_cases c26 : x6_3 < (l0_1.length : Int)
         ·rw [if_pos c26] at H;have c26b0 : decide (x6_3 < (l0_1.length : Int)) = true := decide_eq_true c26
          clear c26;by_cases c27 : 0 ≤ x6_3
          ·rw [if_pos c27] at H;have c27b0 : decide (0 ≤ x6_3) = true := decide_eq_true c27
           clear c27;by_cases c28 : x6_3 < (l1_1.length : Int)
           ·rw [if_pos c28] at H;have c28b0 : decide (x6_3 < (l1_1.length : Int)) = true := decide_eq_true c28
            clear c28;by_cases c29 : ((rdOf false l0_1 x6_3) != (rdOf false l1_1 x6_3)) = true
            ·rw [if_pos c29] at H;have c29b0 : ((rdOf false l0_1 x6_3) != (rdOf false l1_1 x6_3)) = true := c29
             (try (have c29b1 : decide ((rdOf false l0_1 x6_3) = (rdOf false l1_1 x6_3)) = false := by simpa using c29))
             (try (have c29b2 : ((rdOf false l0_1 x6_3) == (rdOf false l1_1 x6_3)) = false := by simpa using c29))
             (try (have c29b3 : ¬ ((rdOf false l0_1 x6_3) = (rdOf false l1_1 x6_3)) := by simpa using c29))
             (try (have c29b4 : (rdOf false l0_1 x6_3) = true := neb_l (a := (rdOf false l0_1 x6_3)) (b := (rdOf false l1_1 x6_3)) (v := false) (by first | exact c29 | simpa using c29) (by assumption)))
             (try (have c29b5 : (rdOf false l0_1 x6_3) = false := neb_l (a := (rdOf false l0_1 x6_3)) (b := (rdOf false l1_1 x6_3)) (v := true) (by first | exact c29 | simpa using c29) (by assumption)))
             (try (have c29b6 : (rdOf false l1_1 x6_3) = true := neb_r (a := (rdOf false l0_1 x6_3)) (b := (rdOf false l1_1 x6_3)) (v := false) (by first | exact c29 | simpa using c29) (by assumption)))
             (try (have c29b7 : (rdOf false l1_1 x6_3) = false := neb_r (a := (rdOf false l0_1 x6_3)) (b := (rdOf false l1_1 x6_3)) (v := true) (by first | exact c29 | simpa using c29) (by assumption)))
             clear c29;obtain rfl := Option.some.inj H;have hnb30 := NB101_102.out;have hnc30 := NB102_101.out;obtain ⟨hcz31_0, hcz31_1, hfz31_0, hfz31_1⟩ := zc2 BK101;have p105 : 0 ≤ (x6_3 : Int) := of_decide_eq_true (by assumption)
             have q105 : x6_3 < (l0_1.length : Int) := of_decide_eq_true (by assumption)
             obtain ⟨ad105, e105, hx105_0⟩ := Kd.at_bool HR0_1.out x6_3 p105 q105
             cases e105
             replace hx105_0 := (HB.out.cell (World.block_lt_of_cell? w _ hx105_0)).trans hx105_0
             replace p105 := eq_true p105;replace q105 := eq_true q105;obtain ⟨hcz32_0, hcz32_1, hfz32_0, hfz32_1⟩ := zc2 BK102;have p106 : 0 ≤ (x6_3 : Int) := of_decide_eq_true (by assumption)
             have q106 : x6_3 < (l1_1.length : Int) := of_decide_eq_true (by assumption)
             obtain ⟨ad106, e106, hx106_0⟩ := Kd.at_bool HR1_1.out x6_3 p106 q106
             cases e106
             replace hx106_0 := (HB.out.cell (World.block_lt_of_cell? w _ hx106_0)).trans hx106_0
             replace p106 := eq_true p106;replace q106 := eq_true q106;go_wp2
             repeat (go_quiet (fail); try go_wp2)
             go_ret
             exact ⟨zF, (zB HB)⟩
            ·rw [if_neg c29] at H;have c29b0 : ((rdOf false l0_1 x6_3) != (rdOf false l1_1 x6_3)) = false := by simpa using c29
             (try (have c29b1 : decide ((rdOf false l0_1 x6_3) = (rdOf false l1_1 x6_3)) = true := by simpa using c29))
             (try (have c29b2 : ((rdOf false l0_1 x6_3) == (rdOf false l1_1 x6_3)) = true := by simpa using c29))
             (try (have c29b3 : (rdOf false l0_1 x6_3) = true := eqb_l (a := (rdOf false l0_1 x6_3)) (b := (rdOf false l1_1 x6_3)) (v := true) (by first | exact c29 | simpa using c29) (by assumption)))
             (try (have c29b4 : (rdOf false l0_1 x6_3) = false := eqb_l (a := (rdOf false l0_1 x6_3)) (b := (rdOf false l1_1 x6_3)) (v := false) (by first | exact c29 | simpa using c29) (by assumption)))
             (try (have c29b5 : (rdOf false l1_1 x6_3) = true := eqb_r (a := (rdOf false l0_1 x6_3)) (b := (rdOf false l1_1 x6_3)) (v := true) (by first | exact c29 | simpa using c29) (by assumption)))
             (try (have c29b6 : (rdOf false l1_1 x6_3) = false := eqb_r (a := (rdOf false l0_1 x6_3)) (b := (rdOf false l1_1 x6_3)) (v := false) (by first | exact c29 | simpa using c29) (by assumption)))
             clear c29;have H' := Am H
             clear H;have hnb33 := NB101_102.out;have hnc33 := NB102_101.out;obtain ⟨hcz34_0, hcz34_1, hfz34_0, hfz34_1⟩ := zc2 BK101;have p105 : 0 ≤ (x6_3 : Int) := of_decide_eq_true (by assumption)
             have q105 : x6_3 < (l0_1.length : Int) := of_decide_eq_true (by assumption)
             obtain ⟨ad105, e105, hx105_0⟩ := Kd.at_bool HR0_1.out x6_3 p105 q105
             cases e105
             replace hx105_0 := (HB.out.cell (World.block_lt_of_cell? w _ hx105_0)).trans hx105_0
             replace p105 := eq_true p105;replace q105 := eq_true q105;obtain ⟨hcz35_0, hcz35_1, hfz35_0, hfz35_1⟩ := zc2 BK102;have p106 : 0 ≤ (x6_3 : Int) := of_decide_eq_true (by assumption)
             have q106 : x6_3 < (l1_1.length : Int) := of_decide_eq_true (by assumption)
             obtain ⟨ad106, e106, hx106_0⟩ := Kd.at_bool HR1_1.out x6_3 p106 q106
             cases e106
             replace hx106_0 := (HB.out.cell (World.block_lt_of_cell? w _ hx106_0)).trans hx106_0
             replace p106 := eq_true p106;replace q106 := eq_true q106;go_wp2
             repeat (go_quiet (fail); try go_wp2)
             go_roundg k3
             case measure => have := HJ2.out; have := HK2.out; have := HK3.out; omega
             case rel => exact ⟨(wrap64 (x6_3 + 1)), zG, H', ⟨by have := HJ2.out; have := HK2.out; have := HK3.out; omega⟩, ⟨(zK BK101)⟩, ⟨(zK BK102)⟩, ⟨(zB HB)⟩⟩
           ·rw [if_neg c28] at H;exact absurd H (by simp)
          ·rw [if_neg c27] at H;exact absurd H (by simp)
         ·rw [if_neg c26] at H;have c26b0 : decide (x6_3 < (l0_1.length : Int)) = false := decide_eq_false c26
          clear c26;obtain rfl := Option.some.inj H;have hnb36 := NB101_102.out;have hnc36 := NB102_101.out;obtain ⟨hcz37_0, hcz37_1, hfz37_0, hfz37_1⟩ := zc2 BK101;go_wp2
          repeat (go_quiet (fail); try go_wp2)
          go_ret
          exact ⟨zF, (zB HB)⟩
end Go.Proofs.YtkefbljogjcodaaDoor.F
end
section
namespace Go.Proofs.YtkefbljogjcodaaDoor.F
open Go.RowKit Go.Proofs.YtkefbljogjcodaaDoorW.PrintWords Go.Proofs.YtkefbljogjcodaaDoorW.PrintLast Go.Proofs.YtkefbljogjcodaaDoorW.PrintMore
set_option linter.unusedVariables false
set_option linter.unusedSimpArgs false
theorem size_alloc (w : World) (o : Obj) : (w.alloc o).heap.size = w.heap.size + 1 := by
  show (w.heap.push o).size = _
  exact Array.size_push _
structure Glob (w : World) : Prop where
  k2 : w.cell? ⟨0, 2, none⟩ = some (.bool true)
  k3 : w.cell? ⟨0, 3, none⟩ = some (.bool true)
  k4 : w.cell? ⟨0, 4, none⟩ = some (.bool false)
  k5 : w.cell? ⟨0, 5, none⟩ = some (.bool false)
  k6 : w.cell? ⟨0, 6, none⟩ = some (.bool true)
  k7 : w.cell? ⟨0, 7, none⟩ = some (.bool false)
  tabs : Lib.Utf8Tabs 1 2 w
theorem glob_cell {w0 w : World} {a : Addr} {v : Value} (hb : Below w0.heap.size w0 w) (h : w0.cell? a = some v) : w.cell? a = some v := (hb.cell (World.block_lt_of_cell? w0 _ h)).trans h
theorem Glob.below {w0 w : World} (h : Glob w0) (hb : Below w0.heap.size w0 w) : Glob w :=
  ⟨glob_cell hb h.k2, glob_cell hb h.k3, glob_cell hb h.k4, glob_cell hb h.k5, glob_cell hb h.k6, glob_cell hb h.k7,
    fun c hc => glob_cell hb (h.tabs.1 c hc), fun i hi => ⟨glob_cell hb (h.tabs.2 i hi).1, glob_cell hb (h.tabs.2 i hi).2⟩⟩
theorem Glob.drawn {w0 w : World} (h : Glob w0) (hd : Drawn0 w0 w) : Glob w := by
  obtain ⟨n, rfl⟩ := hd.out
  exact h.below (pw_below_drewN (Below.refl _ _) n)
def span_of.f (a0 a1 : Int) (a2 : ByteArray) : Option (Bool × Bool × Bool) :=
  if a0 = 1 then some (true, true, true) else if a0 = 2 then some (false, false, true) else if a0 = 3 then some (true, false, true) else some (false, false, false)
theorem glob_alloc {w : World} {a : Addr} {v : Value} (o : Obj) (h : w.cell? a = some v) : (w.alloc o).cell? a = some v := glob_cell (below_alloc (Below.refl _ _) o) h
set_option maxHeartbeats 2000000 in
theorem span_of.calls (a0 a1 : Int) (a2 : ByteArray) (r1 r2 r3 : Bool) (w : World) (hG : Glob w) (h : span_of.f a0 a1 a2 = some (r1, r2, r3)) :
  Calls Tryd.prog 83 #[.agg #[.int .i64 a0, .int .i64 a1, .string a2]] w fun e w' => e = .returned (.tuple #[.agg #[.bool r1, .bool r2], .bool r3]) ∧ Below w.heap.size w w' := by
 have HG := Aside0.mk hG;clear hG;unfold span_of.f at h
 by_cases c1 : a0 = 1
 ·subst c1
  obtain ⟨rfl, rfl, rfl⟩ : true = r1 ∧ true = r2 ∧ true = r3 := by simpa using h
  clear h;have h2 := glob_alloc (Obj.cells #[.int .i64 1, .int .i64 a1, .string a2] 26) HG.out.k2
  have h3 := glob_alloc (Obj.cells #[.int .i64 1, .int .i64 a1, .string a2] 26) HG.out.k3
  have h4 := glob_alloc (Obj.cells #[.bool false, .bool false] 102) h2
  have h5 := glob_alloc (Obj.cells #[.bool false, .bool false] 102) h3
  go_enter Tryd.func83, Tryd.ntmps83
  go_wp2
  exact bodyPost_ret (v := .tuple #[.agg #[.bool true, .bool true], .bool true]) (by simp [results, Tryd.results83, go_sem]) rfl ⟨rfl, by repeat (first | exact Below.refl _ _ | apply below_alloc)⟩
 ·by_cases c2 : a0 = 2
  ·subst c2
   obtain ⟨rfl, rfl, rfl⟩ : false = r1 ∧ false = r2 ∧ true = r3 := by simpa using h
   clear h;have h2 := glob_alloc (Obj.cells #[.int .i64 2, .int .i64 a1, .string a2] 26) HG.out.k4
   have h3 := glob_alloc (Obj.cells #[.int .i64 2, .int .i64 a1, .string a2] 26) HG.out.k5
   have h4 := glob_alloc (Obj.cells #[.bool false, .bool false] 102) h2
   have h5 := glob_alloc (Obj.cells #[.bool false, .bool false] 102) h3
   go_enter Tryd.func83, Tryd.ntmps83
   go_wp2
   exact bodyPost_ret (v := .tuple #[.agg #[.bool false, .bool false], .bool true]) (by simp [results, Tryd.results83, go_sem]) rfl ⟨rfl, by repeat (first | exact Below.refl _ _ | apply below_alloc)⟩
  ·by_cases c3 : a0 = 3
   ·subst c3
    obtain ⟨rfl, rfl, rfl⟩ : true = r1 ∧ false = r2 ∧ true = r3 := by simpa using h
    clear h;have h2 := glob_alloc (Obj.cells #[.int .i64 3, .int .i64 a1, .string a2] 26) HG.out.k6
    have h3 := glob_alloc (Obj.cells #[.int .i64 3, .int .i64 a1, .string a2] 26) HG.out.k7
    have h4 := glob_alloc (Obj.cells #[.bool false, .bool false] 102) h2
    have h5 := glob_alloc (Obj.cells #[.bool false, .bool false] 102) h3
    go_enter Tryd.func83, Tryd.ntmps83
    go_wp2
    exact bodyPost_ret (v := .tuple #[.agg #[.bool true, .bool false], .bool true]) (by simp [results, Tryd.results83, go_sem]) rfl ⟨rfl, by repeat (first | exact Below.refl _ _ | apply below_alloc)⟩
   ·rw [if_neg c1, if_neg c2, if_neg c3] at h
    obtain ⟨rfl, rfl, rfl⟩ : false = r1 ∧ false = r2 ∧ false = r3 := by simpa using h
    clear h;by_cases c4 : a0 < 1
    ·have d1 : decide (a0 < 1) = true := decide_eq_true c4
     clear c1 c2 c3 c4;go_enter Tryd.func83, Tryd.ntmps83
     go_wp2
     exact bodyPost_ret (v := .tuple #[.agg #[.bool false, .bool false], .bool false]) (by simp [results, Tryd.results83, go_sem]) rfl ⟨rfl, by repeat (first | exact Below.refl _ _ | apply below_alloc)⟩
    ·have d1 : decide (a0 < 1) = false := decide_eq_false c4
     have d2 : decide (3 < a0) = true := decide_eq_true (by omega)
     clear c1 c2 c3 c4;go_enter Tryd.func83, Tryd.ntmps83
     go_wp2
     exact bodyPost_ret (v := .tuple #[.agg #[.bool false, .bool false], .bool false]) (by simp [results, Tryd.results83, go_sem]) rfl ⟨rfl, by repeat (first | exact Below.refl _ _ | apply below_alloc)⟩
end Go.Proofs.YtkefbljogjcodaaDoor.F
end
section
namespace Go.Proofs.YtkefbljogjcodaaDoor.F
open Go.RowKit Go.Proofs.YtkefbljogjcodaaDoorW.PrintWords Go.Proofs.YtkefbljogjcodaaDoorW.PrintLast Go.Proofs.YtkefbljogjcodaaDoorW.PrintMore
attribute [local go_sem] max2_int min2_int max_two min_two max_three min_three max_four min_four cell_setCell_isSome
set_option linter.unusedVariables false
set_option linter.unusedSimpArgs false
open Kd
def span_In.f (a0_0 : Int) (a0_1 : Int) (a0_2 : ByteArray) : Option (Int) := (span_of.f a0_0 a0_1 a0_2).bind fun bt102 => (if bt102.1 = true then (some a0_1) else (some 0))
set_option maxHeartbeats 40000000 in
set_option maxRecDepth 100000 in
theorem span_In.calls (a0_0 : Int) (a0_1 : Int) (a0_2 : ByteArray) (r : Int) (w : World) (hG : Glob w) (h : span_In.f a0_0 a0_1 a0_2 = some r) :
  Calls Tryd.prog 80 #[.agg #[.int .i64 a0_0, .int .i64 a0_1, .string a0_2]] w fun e w' => e = .returned (.int .i64 r) ∧ Below w.heap.size w w' := by
 have hu26 := Tryd.underlying26
 have hu102 := Tryd.underlying102
 have HG := Am hG;clear hG;have HB := Am (Below.refl w.heap.size w)
 have H : ((span_of.f a0_0 a0_1 a0_2).bind fun bt102 => (if bt102.1 = true then (some a0_1) else (some 0))) = some r := h
 clear h;replace H := Option.bind_eq_some_iff.mp H;obtain ⟨⟨t102, t103, t104⟩, A20, H⟩ := H;replace H : (if t102 = true then (some a0_1) else (some 0)) = some r := H
 have A2 := Am A20;clear A20;by_cases c3 : t102 = true
 ·subst c3
  have H1 : (some a0_1) = some r := by rw [if_pos rfl] at H; exact H
  clear H;have H := H1
  clear H1;obtain rfl := Option.some.inj H;go_enter Tryd.func80, Tryd.ntmps80
  go_wp2_with (first | ((with_reducible refine gate_dst (N := 1) rfl ?_); refine box_event ?hg (N := 1) ?hd (cs := #[.int .i64 a0_0, .int .i64 a0_1, .string a0_2]) (t := 26) ?hr ?_; (case hd => rfl); (case hg => rfl); (case hr => first | (go_simp; done) | (go_simp; rfl)); intro gb101 hg w4 hbox hb; have BK101 := Am (hbox);have GW101 := Am (zO (w := w) HB hg);have GE101 := Am (zO (w := w) HB hg);replace HB := Am (below_step (zB HB) hb); clear hb hbox hg; obtain ⟨hcz5_0, hcz5_1, hcz5_2, hfz5_0, hfz5_1, hfz5_2⟩ := zc3 BK101) | ((with_reducible refine gate_callee (f := 83) rfl ?_); refine goesL_ (some 7) rfl rfl Tryd.func83 (by kernel_rfl) rfl #[.agg #[.int .i64 a0_0, .int .i64 a0_1, .string a0_2]] rfl zE ?_; (with_reducible refine (span_of.calls a0_0 a0_1 a0_2 true t103 t104 _ ?side1 A2.out).mono ?_); (case side1 => exact zg HG HB); rintro e w6 ⟨rfl, hb⟩; refine ⟨_, rfl, ?_⟩; replace BK101 := Am (zU BK101 hb);replace HB := Am (below_step (zB HB) hb); (try clear hb)) | ((with_reducible refine gate_dst (N := 3) rfl ?_); refine box_event ?hg (N := 3) ?hd (cs := #[.bool false, .bool false]) (t := 102) ?hr ?_; (case hd => rfl); (case hg => rfl); (case hr => first | (go_simp; done) | (go_simp; rfl)); intro gb105 hg w7 hbox hb; have BK105 := Am (hbox);have GW105 := Am (zO (w := w) HB hg);have GE105 := Am (zO (w := w) HB hg);replace HB := Am (below_step (zB HB) hb);have NB101_105 := Am ((by rw [hg]; exact Nat.ne_of_lt (zL BK101) : gb101 ≠ gb105));have NB105_101 := Am ((by rw [hg]; exact Nat.ne_of_gt (zL BK101) : gb105 ≠ gb101));replace BK101 := Am (zU BK101 hb); clear hb hbox hg; have hnb8 := NB105_101.out; have hnc8 := NB101_105.out; obtain ⟨hcz9_0, hcz9_1, hfz9_0, hfz9_1⟩ := zc2 BK105; obtain ⟨hcz10_0, hcz10_1, hcz10_2, hfz10_0, hfz10_1, hfz10_2⟩ := zc3 BK101))
  go_ret
  exact ⟨zF, (zB HB)⟩
 ·replace c3 := Bool.eq_false_iff.mpr c3
  subst c3
  have H1 : (some 0) = some r := by rw [if_neg (show ¬ (false = true) by decide)] at H; exact H
  clear H;have H := H1
  clear H1;obtain rfl := Option.some.inj H;go_enter Tryd.func80, Tryd.ntmps80
  go_wp2_with (first | ((with_reducible refine gate_dst (N := 1) rfl ?_); refine box_event ?hg (N := 1) ?hd (cs := #[.int .i64 a0_0, .int .i64 a0_1, .string a0_2]) (t := 26) ?hr ?_; (case hd => rfl); (case hg => rfl); (case hr => first | (go_simp; done) | (go_simp; rfl)); intro gb101 hg w11 hbox hb; have BK101 := Am (hbox);have GW101 := Am (zO (w := w) HB hg);have GE101 := Am (zO (w := w) HB hg);replace HB := Am (below_step (zB HB) hb); clear hb hbox hg; obtain ⟨hcz12_0, hcz12_1, hcz12_2, hfz12_0, hfz12_1, hfz12_2⟩ := zc3 BK101) | ((with_reducible refine gate_callee (f := 83) rfl ?_); refine goesL_ (some 7) rfl rfl Tryd.func83 (by kernel_rfl) rfl #[.agg #[.int .i64 a0_0, .int .i64 a0_1, .string a0_2]] rfl zE ?_; (with_reducible refine (span_of.calls a0_0 a0_1 a0_2 false t103 t104 _ ?side1 A2.out).mono ?_); (case side1 => exact zg HG HB); rintro e w13 ⟨rfl, hb⟩; refine ⟨_, rfl, ?_⟩; replace BK101 := Am (zU BK101 hb);replace HB := Am (below_step (zB HB) hb); (try clear hb)) | ((with_reducible refine gate_dst (N := 3) rfl ?_); refine box_event ?hg (N := 3) ?hd (cs := #[.bool false, .bool false]) (t := 102) ?hr ?_; (case hd => rfl); (case hg => rfl); (case hr => first | (go_simp; done) | (go_simp; rfl)); intro gb105 hg w14 hbox hb; have BK105 := Am (hbox);have GW105 := Am (zO (w := w) HB hg);have GE105 := Am (zO (w := w) HB hg);replace HB := Am (below_step (zB HB) hb);have NB101_105 := Am ((by rw [hg]; exact Nat.ne_of_lt (zL BK101) : gb101 ≠ gb105));have NB105_101 := Am ((by rw [hg]; exact Nat.ne_of_gt (zL BK101) : gb105 ≠ gb101));replace BK101 := Am (zU BK101 hb); clear hb hbox hg; have hnb15 := NB105_101.out; have hnc15 := NB101_105.out; obtain ⟨hcz16_0, hcz16_1, hfz16_0, hfz16_1⟩ := zc2 BK105))
  go_ret
  exact ⟨zF, (zB HB)⟩
end Go.Proofs.YtkefbljogjcodaaDoor.F
end
section
namespace Go.Proofs.YtkefbljogjcodaaDoor.F
open Go.RowKit Go.Proofs.YtkefbljogjcodaaDoorW.PrintWords Go.Proofs.YtkefbljogjcodaaDoorW.PrintLast Go.Proofs.YtkefbljogjcodaaDoorW.PrintMore
set_option linter.unusedVariables false
set_option linter.unusedSimpArgs false
section
variable {P : Program}
variable {ops : Array Oper} {rest : List Oper} {o : Oper} {a : Act} {Q : Exit → Act → World → Prop} {α : Type}
end
section
variable {P : Program} {ops : Array Oper} {rest : List Oper} {o : Oper} {a : Act} {Q : Exit → Act → World → Prop} {W : World}
theorem gate_value {x : Operand} {ags : Array Operand} {ts : Array TypeId} (_ho : o.op = .call { callee := .value x, args := ags, argTypes := ts }) (h : wpList P ops Q (o :: rest) a W) : wpList P ops Q (o :: rest) a W := h
theorem goesV_ {oi : Oper} {w : World} (N : Option Tmp) (hd : oi.dst = N) (hg : oi.guard = none) {f : FuncId} {fn : Func} {x : Operand} {ags : Array Operand} {ts : Array TypeId} (hf : P.funcs[f]? = some fn) (hname : (fn.name == "runtime.NumGoroutine") = false) (hb : fn.body.isSome = true) (args : Array Value)
    (hop : oi.op = .call { callee := .value x, args := ags, argTypes := ts }) (hx : a.eval x = .func (.func f) #[] #[]) (hargs : ags.map a.eval = args)
    (h : Calls P f args w fun e w' => ∃ v, e = .returned v ∧ wpList P ops Q rest (a.put N v) w') : wpList P ops Q (oi :: rest) a w := by
  have he := enters_ hf hname hb args w
  have hrun : (execOp a.eval oi).run P w = .ok (.enter f args) w := by
    unfold execOp
    simp [hop, resolve, Deferred.ofValue, invoke, hx, hargs, he]
  refine wpList_plain hg fun K hK => ?_
  unfold Oper.wp
  rw [hrun, Oper.upon_enter]
  refine h.mono fun e w'' hh => ?_
  obtain ⟨v, rfl, hk⟩ := hh
  subst hd
  exact hK _ _ hk
end
def fit_rune.f (a b c d e f g h i : Int) : Option Int := ([a, b, c, d, e, f, g, h] : List Int)[i.toNat]?
theorem fit_cell {w : World} {gb t : Nat} {a b c d e f g h i r : Int} (hb : w.heap[gb]? = some (.cells #[.int .i32 a, .int .i32 b, .int .i32 c, .int .i32 d, .int .i32 e, .int .i32 f, .int .i32 g, .int .i32 h] t (0, 0)))
    (hr : fit_rune.f a b c d e f g h i = some r) : w.cell? ⟨gb, i.toNat, none⟩ = some (.int .i32 r) := by
  rw [blk_cell hb]
  unfold fit_rune.f at hr
  have : (#[.int .i32 a, .int .i32 b, .int .i32 c, .int .i32 d, .int .i32 e, .int .i32 f, .int .i32 g, .int .i32 h] : Array Value) = (([a, b, c, d, e, f, g, h] : List Int).map (Value.int .i32)).toArray := rfl
  rw [this, List.getElem?_toArray, List.getElem?_map, hr]
  rfl
theorem rem8 (x : Int) (h : 0 ≤ x) : 0 ≤ Int.tmod x 8 ∧ Int.tmod x 8 < 8 := ⟨Int.tmod_nonneg _ h, Int.tmod_lt_of_pos _ (by decide)⟩
theorem bt_nonneg (s : ByteArray) (i : Int) : 0 ≤ bt s i := (bt_range s i).1
end Go.Proofs.YtkefbljogjcodaaDoor.F
end
section
namespace Go.Proofs.YtkefbljogjcodaaDoor.F
open Go.RowKit Go.Proofs.YtkefbljogjcodaaDoorW.PrintWords Go.Proofs.YtkefbljogjcodaaDoorW.PrintLast Go.Proofs.YtkefbljogjcodaaDoorW.PrintMore
attribute [local go_sem] max2_int min2_int max_two min_two max_three min_three max_four min_four cell_setCell_isSome
set_option linter.unusedVariables false
set_option linter.unusedSimpArgs false
open Kd
def op_row_sum.l0 : Nat → Int → List (S26) → Int → Int → Option (Int)
  | 0, _, _, _, _ => none
  | k + 1, x5, x8, x9, x10 => if x10 < x9 then (if 0 ≤ x10 then (if x10 < (x8.length : Int) then ((span_In.f ((rd_T26 x8 x10).f0) ((rd_T26 x8 x10).f1) ((rd_T26 x8 x10).f2)).bind fun t103 => (op_row_sum.l0 k (wrap64 (x5 + t103)) x8 x9 (wrap64 (x10 + 1)))) else (none)) else (none)) else (some x5)
def op_row_sum.f (k : Nat) (l0 : List (S26)) : Option (Int) := op_row_sum.l0 k 0 l0 (l0.length : Int) 0
set_option maxHeartbeats 40000000 in
set_option maxRecDepth 100000 in
theorem op_row_sum.calls (k : Nat) (A0 : Option Addr) (c0 : Nat) (l0 : List (S26)) (r : Int) (w : World) (hG : Glob w) (hr0 : Kd.C k26 w A0 l0.length l0) (hc0 : l0.length ≤ c0) (h : op_row_sum.f k l0 = some r) :
  Calls Tryd.prog 66 #[.slice A0 l0.length c0, .func (.func 80) #[] #[]] w fun e w' => e = .returned (.int .i64 r) ∧ Below w.heap.size w w' := by
 have hu26 := Tryd.underlying26
 have HG := Am hG;clear hG;have HR0 := Am hr0;have HC0 := Am hc0;clear hr0 hc0;have HB := Am (Below.refl w.heap.size w)
 have H : (op_row_sum.l0 k 0 l0 (l0.length : Int) 0) = some r := h
 clear h;have H' := Am H
 clear H;go_enter Tryd.func66, Tryd.ntmps66
 go_wp2
 go_loopg [5, 10] k (fun kq v5 v10 w' => ∃ (x5_1 : Int) (x10_1 : Int), v5 = .int .i64 x5_1 ∧ v10 = .int .i64 x10_1 ∧ Aside0 (op_row_sum.l0 kq x5_1 l0 (l0.length : Int) x10_1 = some r) ∧ Aside0 (kq ≤ k) ∧ Aside0 (Below w.heap.size w w'))
 case atStart => exact ⟨(0), (0), zG, zG, H', ⟨Nat.le_refl _⟩, ⟨(zB HB)⟩⟩
 case round =>
  clear H';obtain ⟨x5_1, x10_1, rfl, rfl, HA, HK1, HB⟩ := hrel
  cases gk with
  | zero => exact absurd HA.out (by simp [op_row_sum.l0])
  | succ k1 =>
   have H := HA.out;clear HA;simp only [op_row_sum.l0] at H
   by_cases c2 : x10_1 < (l0.length : Int)
   ·rw [if_pos c2] at H;have c2b0 : decide (x10_1 < (l0.length : Int)) = true := decide_eq_true c2
    clear c2;by_cases c3 : 0 ≤ x10_1
    ·rw [if_pos c3] at H;have c3b0 : decide (0 ≤ x10_1) = true := decide_eq_true c3
     clear c3;by_cases c4 : x10_1 < (l0.length : Int)
     ·rw [if_pos c4] at H;have c4b0 : decide (x10_1 < (l0.length : Int)) = true := decide_eq_true c4
      clear c4;replace H := Option.bind_eq_some_iff.mp H;obtain ⟨t103, A50, H⟩ := H;replace H : (op_row_sum.l0 k1 (wrap64 (x5_1 + t103)) l0 (l0.length : Int) (wrap64 (x10_1 + 1))) = some r := H
      have A5 := Am A50;clear A50;have H' := Am H
      clear H;have p101 : 0 ≤ (x10_1 : Int) := of_decide_eq_true (by assumption)
      have q101 : x10_1 < (l0.length : Int) := of_decide_eq_true (by assumption)
      obtain ⟨ad101, e101, hx101_0, hx101_1, hx101_2⟩ := at_T26 HR0.out x10_1 p101 q101
      cases e101
      replace hx101_0 := (HB.out.cell (World.block_lt_of_cell? w _ hx101_0)).trans hx101_0
      replace hx101_1 := (HB.out.cell (World.block_lt_of_cell? w _ hx101_1)).trans hx101_1
      replace hx101_2 := (HB.out.cell (World.block_lt_of_cell? w _ hx101_2)).trans hx101_2
      replace p101 := eq_true p101;replace q101 := eq_true q101;go_wp2_with (first | ((with_reducible refine gate_dst (N := 7) rfl ?_); refine box_event ?hg (N := 7) ?hd (cs := #[.int .i64 0, .int .i64 0, .string (⟨#[]⟩ : ByteArray)]) (t := 26) ?hr ?_; (case hd => rfl); (case hg => rfl); (case hr => first | (go_simp; done) | (go_simp; rfl)); intro gb102 hg w6 hbox hb; have BK102 := Am (hbox);have GW102 := Am (zO (w := w) HB hg);have GE102 := Am (zO (w := w) HB hg);replace HB := Am (below_step (zB HB) hb); clear hb hbox hg; obtain ⟨hcz7_0, hcz7_1, hcz7_2, hfz7_0, hfz7_1, hfz7_2⟩ := zc3 BK102) | ((with_reducible refine gate_value (x := .tmp 15) rfl ?_); refine goesV_ (some 17) rfl rfl Tryd.func80 (by kernel_rfl) rfl #[.agg #[.int .i64 ((rd_T26 l0 x10_1).f0), .int .i64 ((rd_T26 l0 x10_1).f1), .string ((rd_T26 l0 x10_1).f2)]] rfl rfl zE ?_; (with_reducible refine (span_In.calls ((rd_T26 l0 x10_1).f0) ((rd_T26 l0 x10_1).f1) ((rd_T26 l0 x10_1).f2) t103 _ ?side1 A5.out).mono ?_); (case side1 => exact zg HG HB); rintro e w8 ⟨rfl, hb⟩; refine ⟨_, rfl, ?_⟩; replace BK102 := Am (blk_below (g := gb102) (o := .cells #[.int .i64 ((rd_T26 l0 x10_1).f0), .int .i64 ((rd_T26 l0 x10_1).f1), .string ((rd_T26 l0 x10_1).f2)] 26 (0, 0)) (zP BK102) hb);replace HB := Am (below_step (zB HB) hb); (try clear hb)))
      go_roundg k1
      case measure => have := HK1.out; omega
      case rel => exact ⟨(wrap64 (x5_1 + t103)), (wrap64 (x10_1 + 1)), zG, zG, H', ⟨by have := HK1.out; omega⟩, ⟨(zB HB)⟩⟩
     ·rw [if_neg c4] at H;exact absurd H (by simp)
    ·rw [if_neg c3] at H;exact absurd H (by simp)
   ·rw [if_neg c2] at H;have c2b0 : decide (x10_1 < (l0.length : Int)) = false := decide_eq_false c2
    clear c2;obtain rfl := Option.some.inj H;go_wp2
    go_ret
    exact ⟨zF, (zB HB)⟩
end Go.Proofs.YtkefbljogjcodaaDoor.F
end
section
namespace Go.Proofs.YtkefbljogjcodaaDoor.F
open Go.RowKit Go.Proofs.YtkefbljogjcodaaDoorW.PrintWords Go.Proofs.YtkefbljogjcodaaDoorW.PrintLast Go.Proofs.YtkefbljogjcodaaDoorW.PrintMore
attribute [local go_sem] max2_int min2_int max_two min_two max_three min_three max_four min_four cell_setCell_isSome
set_option linter.unusedVariables false
set_option linter.unusedSimpArgs false
open Kd
def op_In.f (k : Nat) (l0 : List (S26)) : Option (Int) := (op_row_sum.f k l0).bind fun t101 => (some t101)
set_option maxHeartbeats 40000000 in
set_option maxRecDepth 100000 in
theorem op_In.calls (k : Nat) (A0 : Option Addr) (c0 : Nat) (l0 : List (S26)) (r : Int) (w : World) (hG : Glob w) (hr0 : Kd.C k26 w A0 l0.length l0) (hc0 : l0.length ≤ c0) (h : op_In.f k l0 = some r) :
  Calls Tryd.prog 45 #[.slice A0 l0.length c0] w fun e w' => e = .returned (.int .i64 r) ∧ Below w.heap.size w w' := by
 have HG := Am hG;clear hG;have HR0 := Am hr0;have HC0 := Am hc0;clear hr0 hc0;have HB := Am (Below.refl w.heap.size w)
 have H : ((op_row_sum.f k l0).bind fun t101 => (some t101)) = some r := h
 clear h;replace H := Option.bind_eq_some_iff.mp H;obtain ⟨t101, A20, H⟩ := H;replace H : (some t101) = some r := H
 have A2 := Am A20;clear A20;obtain rfl := Option.some.inj H;go_enter Tryd.func45, Tryd.ntmps45
 go_wp2_with (first | ((with_reducible refine gate_value (x := .tmp 4) rfl ?_); refine goesV_ (some 6) rfl rfl Tryd.func66 (by kernel_rfl) rfl #[.slice A0 l0.length c0, .func (.func 80) #[] #[]] rfl rfl zE ?_; (with_reducible refine (op_row_sum.calls k _ _ l0 t101 _ ?side1 ?side2 ?side3 A2.out).mono ?_); (case side1 => exact zg HG HB); (case side2 => exact zI HR0.out); (case side3 => exact HC0.out); rintro e w3 ⟨rfl, hb⟩; refine ⟨_, rfl, ?_⟩; replace HB := Am (below_step (zB HB) hb); (try clear hb)))
 go_ret
 exact ⟨zF, (zB HB)⟩
end Go.Proofs.YtkefbljogjcodaaDoor.F
end
section
namespace Go.Proofs
open Go.Shelf
def Tryd.laysValid_ren : Go.Shelf.Ren := ⟨fun | 196 => 84 | 259 => 92 | n => n, fun | 9 => 9 | 4 => 4 | 3 => 3 | 5 => 5 | 12 => 12 | 119 => 114 | 0 => 0 | 46 => 118 | 139 => 117 | 138 => 116 | 53 => 119 | n => n, fun | 3 => 1 | 4 => 2 | n => n⟩
theorem Tryd.laysValid : Go.Proofs.Lays.n196 Tryd.prog Tryd.laysValid_ren := {
  mixed := by kernel_rfl
  f196 := Tryd.func84.trans (congrArg some (by kernel_rfl))
  f259 := Tryd.func92.trans (congrArg some (by kernel_rfl))
  t0 := Tryd.underlying0
  a0 := Tryd.isAgg0
  z0 := Tryd.sizeOf0
  v0 := Tryd.zeroValue0
  t3 := Tryd.underlying3
  a3 := Tryd.isAgg3
  z3 := Tryd.sizeOf3
  v3 := Tryd.zeroValue3
  t4 := Tryd.underlying4
  a4 := Tryd.isAgg4
  z4 := Tryd.sizeOf4
  v4 := Tryd.zeroValue4
  t5 := Tryd.underlying5
  a5 := Tryd.isAgg5
  z5 := Tryd.sizeOf5
  v5 := Tryd.zeroValue5
  t9 := Tryd.underlying9
  a9 := Tryd.isAgg9
  z9 := Tryd.sizeOf9
  v9 := Tryd.zeroValue9
  t12 := Tryd.underlying12
  a12 := Tryd.isAgg12
  z12 := Tryd.sizeOf12
  v12 := Tryd.zeroValue12
  t46 := Tryd.underlying118
  a46 := Tryd.isAgg118
  z46 := Tryd.sizeOf118
  v46 := Tryd.zeroValue118
  t53 := Tryd.underlying119
  a53 := Tryd.isAgg119
  z53 := Tryd.sizeOf119
  v53 := Tryd.zeroValue119
  t119 := Tryd.underlying114
  a119 := Tryd.isAgg114
  z119 := Tryd.sizeOf114
  t138 := Tryd.underlying116
  a138 := Tryd.isAgg116
  z138 := Tryd.sizeOf116
  v138 := Tryd.zeroValue116
  t139 := Tryd.underlying117
  a139 := Tryd.isAgg117
  z139 := Tryd.sizeOf117
  v139 := Tryd.zeroValue117
  g3 := by kernel_rfl
  g4 := by kernel_rfl }
end Go.Proofs
end
section
namespace Go.Proofs.YtkefbljogjcodaaDoor.F
open Go.RowKit Go.Proofs.YtkefbljogjcodaaDoorW.PrintWords Go.Proofs.YtkefbljogjcodaaDoorW.PrintLast Go.Proofs.YtkefbljogjcodaaDoorW.PrintMore
set_option linter.unusedVariables false
set_option linter.unusedSimpArgs false
def utf8_ValidString.f (a0 : ByteArray) : Option Bool := if a0.size ≤ 9223372036854775807 then some (Lib.validD a0.data.toList) else none
theorem utf8_ValidString.calls (a0 : ByteArray) (r : Bool) (w : World) (hG : Glob w) (h : utf8_ValidString.f a0 = some r) :
  Calls Tryd.prog 84 #[.string a0] w fun e w' => e = .returned (.bool r) ∧ Below w.heap.size w w' := by
 unfold utf8_ValidString.f at h
 split at h
 ·next hs =>
  obtain rfl := Option.some.inj h
  exact Any.utf8_ValidString Tryd.laysValid a0 w hs hG.tabs
 ·cases h
end Go.Proofs.YtkefbljogjcodaaDoor.F
end
section
namespace Go.Proofs.YtkefbljogjcodaaDoor.F
open Go.RowKit Go.Proofs.YtkefbljogjcodaaDoorW.PrintWords Go.Proofs.YtkefbljogjcodaaDoorW.PrintLast Go.Proofs.YtkefbljogjcodaaDoorW.PrintMore
attribute [local go_sem] max2_int min2_int max_two min_two max_three min_three max_four min_four cell_setCell_isSome
set_option linter.unusedVariables false
set_option linter.unusedSimpArgs false
open Kd
def points_Valid.f (a0 : ByteArray) : Option (Bool) := (utf8_ValidString.f a0).bind fun t101 => (some t101)
set_option maxHeartbeats 40000000 in
set_option maxRecDepth 100000 in
theorem points_Valid.calls (a0 : ByteArray) (r : Bool) (w : World) (hG : Glob w) (h : points_Valid.f a0 = some r) :
  Calls Tryd.prog 55 #[.string a0] w fun e w' => e = .returned (.bool r) ∧ Below w.heap.size w w' := by
 have HG := Am hG;clear hG;have HB := Am (Below.refl w.heap.size w)
 have H : ((utf8_ValidString.f a0).bind fun t101 => (some t101)) = some r := h
 clear h;replace H := Option.bind_eq_some_iff.mp H;obtain ⟨t101, A20, H⟩ := H;replace H : (some t101) = some r := H
 have A2 := Am A20;clear A20;obtain rfl := Option.some.inj H;go_enter Tryd.func55, Tryd.ntmps55
 go_wp2_with (first | ((with_reducible refine gate_callee (f := 84) rfl ?_); refine goesL_ (some 4) rfl rfl Tryd.func84 (by kernel_rfl) rfl #[.string a0] rfl zE ?_; (with_reducible refine (utf8_ValidString.calls a0 t101 _ ?side1 A2.out).mono ?_); (case side1 => exact zg HG HB); rintro e w3 ⟨rfl, hb⟩; refine ⟨_, rfl, ?_⟩; replace HB := Am (below_step (zB HB) hb); (try clear hb)))
 go_ret
 exact ⟨zF, (zB HB)⟩
end Go.Proofs.YtkefbljogjcodaaDoor.F
end
section
namespace Go.Proofs.YtkefbljogjcodaaDoor.F
open Go.RowKit Go.Proofs.YtkefbljogjcodaaDoorW.PrintWords Go.Proofs.YtkefbljogjcodaaDoorW.PrintLast Go.Proofs.YtkefbljogjcodaaDoorW.PrintMore
attribute [local go_sem] max2_int min2_int max_two min_two max_three min_three max_four min_four cell_setCell_isSome
set_option linter.unusedVariables false
set_option linter.unusedSimpArgs false
open Kd
mutual
def span_May.j0 : Nat → Bool → Int → Int → ByteArray → Bool → Bool → Option (Int)
  | 0, _, _, _, _, _, _ => none
  | k + 1, x13, x102000, x102001, x102002, x106000, x106001 => if x13 = true then (span_May.j1 k x13 x102000 x102001 x102002 x106000 x106001) else (if x106000 = true then (span_May.j1 k false x102000 x102001 x102002 x106000 x106001) else (span_May.j1 k (x102001 != 0) x102000 x102001 x102002 x106000 x106001))
def span_May.j1 : Nat → Bool → Int → Int → ByteArray → Bool → Bool → Option (Int)
  | 0, _, _, _, _, _, _ => none
  | k + 1, x13, x102000, x102001, x102002, x106000, x106001 => if x13 = true then (some 2) else (if x106000 = true then (span_May.j2 k (x102002.toList != ([] : List UInt8)) x102000 x102001 x102002) else (span_May.j2 k false x102000 x102001 x102002))
def span_May.j2 : Nat → Bool → Int → Int → ByteArray → Option (Int)
  | 0, _, _, _, _ => none
  | k + 1, x34, x102000, x102001, x102002 => if x34 = true then (some 3) else ((points_Valid.f x102002).bind fun t106 => (if t106 = true then (some 0) else (some 3)))
end
def span_May.f (k : Nat) (a0_0 : Int) (a0_1 : Int) (a0_2 : ByteArray) : Option (Int) := (span_of.f a0_0 a0_1 a0_2).bind fun bt102 => (if bt102.2.2 = true then (if bt102.1 = true then (if a0_1 < 0 then (span_May.j0 k true a0_0 a0_1 a0_2 bt102.1 bt102.2.1) else (span_May.j0 k (decide (a0_1 > 1048576)) a0_0 a0_1 a0_2 bt102.1 bt102.2.1)) else (span_May.j0 k false a0_0 a0_1 a0_2 bt102.1 bt102.2.1)) else (some 1))
set_option maxHeartbeats 40000000 in
set_option maxRecDepth 100000 in
theorem span_May.calls (k : Nat) (a0_0 : Int) (a0_1 : Int) (a0_2 : ByteArray) (r : Int) (w : World) (hG : Glob w) (h : span_May.f k a0_0 a0_1 a0_2 = some r) :
  Calls Tryd.prog 82 #[.agg #[.int .i64 a0_0, .int .i64 a0_1, .string a0_2]] w fun e w' => e = .returned (.int .i64 r) ∧ Below w.heap.size w w' := by
 have hu26 := Tryd.underlying26
 have hu102 := Tryd.underlying102
 have HG := Am hG;clear hG;have HB := Am (Below.refl w.heap.size w)
 have H : ((span_of.f a0_0 a0_1 a0_2).bind fun bt102 => (if bt102.2.2 = true then (if bt102.1 = true then (if a0_1 < 0 then (span_May.j0 k true a0_0 a0_1 a0_2 bt102.1 bt102.2.1) else (span_May.j0 k (decide (a0_1 > 1048576)) a0_0 a0_1 a0_2 bt102.1 bt102.2.1)) else (span_May.j0 k false a0_0 a0_1 a0_2 bt102.1 bt102.2.1)) else (some 1))) = some r := h
 clear h;replace H := Option.bind_eq_some_iff.mp H;obtain ⟨⟨t102, t103, t104⟩, A20, H⟩ := H;have A2 := Am A20;clear A20;by_cases c3 : t104 = true
 ·subst c3
  have H1 : (if t102 = true then (if a0_1 < 0 then (span_May.j0 k true a0_0 a0_1 a0_2 t102 t103) else (span_May.j0 k (decide (a0_1 > 1048576)) a0_0 a0_1 a0_2 t102 t103)) else (span_May.j0 k false a0_0 a0_1 a0_2 t102 t103)) = some r := by rw [if_pos rfl] at H; exact H
  clear H;have H := H1
  clear H1;have HC4 := Am H;clear H;go_enter Tryd.func82, Tryd.ntmps82
  go_upto_region 4 with (first | ((with_reducible refine gate_dst (N := 1) rfl ?_); refine box_event ?hg (N := 1) ?hd (cs := #[.int .i64 a0_0, .int .i64 a0_1, .string a0_2]) (t := 26) ?hr ?_; (case hd => rfl); (case hg => rfl); (case hr => first | (go_simp; done) | (go_simp; rfl)); intro gb101 hg w5 hbox hb; have BK101 := Am (hbox);have GW101 := Am (zO (w := w) HB hg);have GE101 := Am (zO (w := w) HB hg);replace HB := Am (below_step (zB HB) hb); clear hb hbox hg; obtain ⟨hcz6_0, hcz6_1, hcz6_2, hfz6_0, hfz6_1, hfz6_2⟩ := zc3 BK101) | ((with_reducible refine gate_callee (f := 83) rfl ?_); refine goesL_ (some 7) rfl rfl Tryd.func83 (by kernel_rfl) rfl #[.agg #[.int .i64 a0_0, .int .i64 a0_1, .string a0_2]] rfl zE ?_; (with_reducible refine (span_of.calls a0_0 a0_1 a0_2 t102 t103 true _ ?side1 A2.out).mono ?_); (case side1 => exact zg HG HB); rintro e w7 ⟨rfl, hb⟩; refine ⟨_, rfl, ?_⟩; replace BK101 := Am (zU BK101 hb);replace HB := Am (below_step (zB HB) hb); (try clear hb)) | ((with_reducible refine gate_dst (N := 3) rfl ?_); refine box_event ?hg (N := 3) ?hd (cs := #[.bool false, .bool false]) (t := 102) ?hr ?_; (case hd => rfl); (case hg => rfl); (case hr => first | (go_simp; done) | (go_simp; rfl)); intro gb105 hg w8 hbox hb; have BK105 := Am (hbox);have GW105 := Am (zO (w := w) HB hg);have GE105 := Am (zO (w := w) HB hg);replace HB := Am (below_step (zB HB) hb);have NB101_105 := Am ((by rw [hg]; exact Nat.ne_of_lt (zL BK101) : gb101 ≠ gb105));have NB105_101 := Am ((by rw [hg]; exact Nat.ne_of_gt (zL BK101) : gb105 ≠ gb101));replace BK101 := Am (zU BK101 hb); clear hb hbox hg; have hnb9 := NB105_101.out; have hnc9 := NB101_105.out; obtain ⟨hcz10_0, hcz10_1, hfz10_0, hfz10_1⟩ := zc2 BK105))
  (try simp only [Act.put, zS])
  go_cut [13] (fun v13 wc => ∃ (kq : Nat) (x13_3 : Bool), v13 = .bool x13_3 ∧ Aside0 (span_May.j0 kq x13_3 a0_0 a0_1 a0_2 t102 t103 = some r) ∧ Aside0 (kq ≤ k) ∧ Aside0 (wc.heap[gb101]? = some (.cells #[.int .i64 a0_0, .int .i64 a0_1, .string a0_2] 26 (0, 0))) ∧ Aside0 (wc.heap[gb105]? = some (.cells #[.bool t102, .bool t103] 102 (0, 0))) ∧ Aside0 (Below w.heap.size w wc))
  case first =>
   have H := HC4.out;clear HC4;by_cases c11 : t102 = true
   ·subst c11
    have H1 : (if a0_1 < 0 then (span_May.j0 k true a0_0 a0_1 a0_2 true t103) else (span_May.j0 k (decide (a0_1 > 1048576)) a0_0 a0_1 a0_2 true t103)) = some r := by rw [if_pos rfl] at H; exact H
    clear H;have H := H1
    clear H1;by_cases c12 : a0_1 < 0
    ·rw [if_pos c12] at H;have c12b0 : decide (a0_1 < 0) = true := decide_eq_true c12
     clear c12;(first | rw [c12b0] | (simp only [i64_w, i32_w]; rw [c12b0]) | skip)
     have H' := Am H
     clear H;have hnb13 := NB105_101.out;have hnc13 := NB101_105.out;obtain ⟨hcz14_0, hcz14_1, hfz14_0, hfz14_1⟩ := zc2 BK105;obtain ⟨hcz15_0, hcz15_1, hcz15_2, hfz15_0, hfz15_1, hfz15_2⟩ := zc3 BK101;go_wp2
     go_meet
     case rel => exact ⟨_, (true), zG, H', ⟨by first | omega | exact Nat.le_refl _⟩, ⟨(zK BK101)⟩, ⟨(zP BK105)⟩, ⟨(zB HB)⟩⟩
    ·rw [if_neg c12] at H;have c12b0 : decide (a0_1 < 0) = false := decide_eq_false c12
     clear c12;(first | rw [c12b0] | (simp only [i64_w, i32_w]; rw [c12b0]) | skip)
     have H' := Am H
     clear H;have hnb16 := NB105_101.out;have hnc16 := NB101_105.out;obtain ⟨hcz17_0, hcz17_1, hfz17_0, hfz17_1⟩ := zc2 BK105;obtain ⟨hcz18_0, hcz18_1, hcz18_2, hfz18_0, hfz18_1, hfz18_2⟩ := zc3 BK101;go_wp2
     go_meet
     case rel => exact ⟨_, (decide (a0_1 > 1048576)), zG, H', ⟨by first | omega | exact Nat.le_refl _⟩, ⟨(zK BK101)⟩, ⟨(zP BK105)⟩, ⟨(zB HB)⟩⟩
   ·replace c11 := Bool.eq_false_iff.mpr c11
    subst c11
    have H1 : (span_May.j0 k false a0_0 a0_1 a0_2 false t103) = some r := by rw [if_neg (show ¬ (false = true) by decide)] at H; exact H
    clear H;have H := H1
    clear H1;have H' := Am H
    clear H;have hnb19 := NB105_101.out;have hnc19 := NB101_105.out;obtain ⟨hcz20_0, hcz20_1, hfz20_0, hfz20_1⟩ := zc2 BK105;go_wp2
    go_meet
    case rel => exact ⟨_, (false), zG, H', ⟨by first | omega | exact Nat.le_refl _⟩, ⟨(zK BK101)⟩, ⟨(zP BK105)⟩, ⟨(zB HB)⟩⟩
  case rest =>
   clear HC4;(try clear c1);(try clear p2);(try clear c3);(try clear c8);(try clear c9);(try clear c11);(try clear c12);(try clear c12b0);(try clear c13);(try clear c16);(try clear c19);(try clear hcz10_0);(try clear hcz10_1);(try clear hcz14_0);(try clear hcz14_1);(try clear hcz15_0);(try clear hcz15_1);(try clear hcz15_2);(try clear hcz17_0);(try clear hcz17_1);(try clear hcz18_0);(try clear hcz18_1);(try clear hcz18_2);(try clear hcz20_0);(try clear hcz20_1);(try clear hcz6_0);(try clear hcz6_1);(try clear hcz6_2);(try clear hfz10_0);(try clear hfz10_1);(try clear hfz14_0);(try clear hfz14_1);(try clear hfz15_0);(try clear hfz15_1);(try clear hfz15_2);(try clear hfz17_0);(try clear hfz17_1);(try clear hfz18_0);(try clear hfz18_1);(try clear hfz18_2);(try clear hfz20_0);(try clear hfz20_1);(try clear hfz6_0);(try clear hfz6_1);(try clear hfz6_2);obtain ⟨kq, x13_3, rfl, HA, HJ3, BK101, BK105, HB⟩ := hcut
   cases kq with
   | zero => exact absurd HA.out (by simp [span_May.j0])
   | succ kj3 =>
    have H := HA.out;clear HA;simp only [span_May.j0] at H
    have HC21 := Am H;clear H;go_upto_if 13 with (fail)
    go_cut [13] (fun v13 wc => ∃ (kq : Nat) (x13_20 : Bool), v13 = .bool x13_20 ∧ Aside0 (span_May.j1 kq x13_20 a0_0 a0_1 a0_2 t102 t103 = some r) ∧ Aside0 (kq ≤ kj3) ∧ Aside0 (wc.heap[gb101]? = some (.cells #[.int .i64 a0_0, .int .i64 a0_1, .string a0_2] 26 (0, 0))) ∧ Aside0 (wc.heap[gb105]? = some (.cells #[.bool t102, .bool t103] 102 (0, 0))) ∧ Aside0 (Below w.heap.size w wc))
    case first =>
     have H := HC21.out;clear HC21;by_cases c22 : x13_3 = true
     ·subst c22
      have H1 : (span_May.j1 kj3 true a0_0 a0_1 a0_2 t102 t103) = some r := by rw [if_pos rfl] at H; exact H
      clear H;have H := H1
      clear H1;have H' := Am H
      clear H;go_wp2
      go_meet
      case rel => exact ⟨_, (true), zG, H', ⟨by have := HJ3.out; first | omega | exact Nat.le_refl _⟩, ⟨(zK BK101)⟩, ⟨(zK BK105)⟩, ⟨(zB HB)⟩⟩
     ·replace c22 := Bool.eq_false_iff.mpr c22
      subst c22
      have H1 : (if t102 = true then (span_May.j1 kj3 false a0_0 a0_1 a0_2 t102 t103) else (span_May.j1 kj3 (a0_1 != 0) a0_0 a0_1 a0_2 t102 t103)) = some r := by rw [if_neg (show ¬ (false = true) by decide)] at H; exact H
      clear H;have H := H1
      clear H1;by_cases c23 : t102 = true
      ·subst c23
       have H1 : (span_May.j1 kj3 false a0_0 a0_1 a0_2 true t103) = some r := by rw [if_pos rfl] at H; exact H
       clear H;have H := H1
       clear H1;have H' := Am H
       clear H;have hnb24 := NB105_101.out;have hnc24 := NB101_105.out;obtain ⟨hcz25_0, hcz25_1, hfz25_0, hfz25_1⟩ := zc2 BK105;go_wp2
       go_meet
       case rel => exact ⟨_, (false), zG, H', ⟨by have := HJ3.out; first | omega | exact Nat.le_refl _⟩, ⟨(zK BK101)⟩, ⟨(zK BK105)⟩, ⟨(zB HB)⟩⟩
      ·replace c23 := Bool.eq_false_iff.mpr c23
       subst c23
       have H1 : (span_May.j1 kj3 (a0_1 != 0) a0_0 a0_1 a0_2 false t103) = some r := by rw [if_neg (show ¬ (false = true) by decide)] at H; exact H
       clear H;have H := H1
       clear H1;have H' := Am H
       clear H;have hnb26 := NB105_101.out;have hnc26 := NB101_105.out;obtain ⟨hcz27_0, hcz27_1, hfz27_0, hfz27_1⟩ := zc2 BK105;obtain ⟨hcz28_0, hcz28_1, hcz28_2, hfz28_0, hfz28_1, hfz28_2⟩ := zc3 BK101;go_wp2
       go_meet
       case rel => exact ⟨_, ((a0_1 != 0)), zG, H', ⟨by have := HJ3.out; first | omega | exact Nat.le_refl _⟩, ⟨(zK BK101)⟩, ⟨(zK BK105)⟩, ⟨(zB HB)⟩⟩
    case rest =>
     clear HC21;(try clear c1);(try clear c2);(try clear p2);(try clear c3);(try clear c8);(try clear c9);(try clear c11);(try clear c12);(try clear c12b0);(try clear c13);(try clear c16);(try clear c19);(try clear c22);(try clear c23);(try clear c24);(try clear c26);(try clear hcz10_0);(try clear hcz10_1);(try clear hcz14_0);(try clear hcz14_1);(try clear hcz15_0);(try clear hcz15_1);(try clear hcz15_2);(try clear hcz17_0);(try clear hcz17_1);(try clear hcz18_0);(try clear hcz18_1);(try clear hcz18_2);(try clear hcz20_0);(try clear hcz20_1);(try clear hcz25_0);(try clear hcz25_1);(try clear hcz27_0);(try clear hcz27_1);(try clear hcz28_0);(try clear hcz28_1);(try clear hcz28_2);(try clear hcz6_0);(try clear hcz6_1);(try clear hcz6_2);(try clear hfz10_0);(try clear hfz10_1);(try clear hfz14_0);(try clear hfz14_1);(try clear hfz15_0);(try clear hfz15_1);(try clear hfz15_2);(try clear hfz17_0);(try clear hfz17_1);(try clear hfz18_0);(try clear hfz18_1);(try clear hfz18_2);(try clear hfz20_0);(try clear hfz20_1);(try clear hfz25_0);(try clear hfz25_1);(try clear hfz27_0);(try clear hfz27_1);(try clear hfz28_0);(try clear hfz28_1);(try clear hfz28_2);(try clear hfz6_0);(try clear hfz6_1);(try clear hfz6_2);(try clear p2);obtain ⟨kq, x13_20, rfl, HA, HJ20, BK101, BK105, HB⟩ := hcut
     cases kq with
     | zero => exact absurd HA.out (by simp [span_May.j1])
     | succ kj20 =>
      have H := HA.out;clear HA;simp only [span_May.j1] at H
      by_cases c29 : x13_20 = true
      ·subst c29
       have H1 : (some 2) = some r := by rw [if_pos rfl] at H; exact H
       clear H;have H := H1
       clear H1;obtain rfl := Option.some.inj H;go_wp2
       go_ret
       exact ⟨zF, (zB HB)⟩
      ·replace c29 := Bool.eq_false_iff.mpr c29
       subst c29
       have H1 : (if t102 = true then (span_May.j2 kj20 (a0_2.toList != ([] : List UInt8)) a0_0 a0_1 a0_2) else (span_May.j2 kj20 false a0_0 a0_1 a0_2)) = some r := by rw [if_neg (show ¬ (false = true) by decide)] at H; exact H
       clear H;have H := H1
       clear H1;have HC30 := Am H;clear H;go_upto_region 7 with (fail)
       go_cut [34] (fun v34 wc => ∃ (kq : Nat) (x34_29 : Bool), v34 = .bool x34_29 ∧ Aside0 (span_May.j2 kq x34_29 a0_0 a0_1 a0_2 = some r) ∧ Aside0 (kq ≤ kj20) ∧ Aside0 (wc.heap[gb101]? = some (.cells #[.int .i64 a0_0, .int .i64 a0_1, .string a0_2] 26 (0, 0))) ∧ Aside0 (wc.heap[gb105]? = some (.cells #[.bool t102, .bool t103] 102 (0, 0))) ∧ Aside0 (Below w.heap.size w wc))
       case first =>
        have H := HC30.out;clear HC30;by_cases c31 : t102 = true
        ·subst c31
         have H1 : (span_May.j2 kj20 (a0_2.toList != ([] : List UInt8)) a0_0 a0_1 a0_2) = some r := by rw [if_pos rfl] at H; exact H
         clear H;have H := H1
         clear H1;have H' := Am H
         clear H;have hnb32 := NB105_101.out;have hnc32 := NB101_105.out;obtain ⟨hcz33_0, hcz33_1, hfz33_0, hfz33_1⟩ := zc2 BK105;obtain ⟨hcz34_0, hcz34_1, hcz34_2, hfz34_0, hfz34_1, hfz34_2⟩ := zc3 BK101;go_wp2
         go_meet
         case rel => exact ⟨_, ((a0_2.toList != ([] : List UInt8))), zG, H', ⟨by have := HJ3.out; have := HJ20.out; first | omega | exact Nat.le_refl _⟩, ⟨(zK BK101)⟩, ⟨(zK BK105)⟩, ⟨(zB HB)⟩⟩
        ·replace c31 := Bool.eq_false_iff.mpr c31
         subst c31
         have H1 : (span_May.j2 kj20 false a0_0 a0_1 a0_2) = some r := by rw [if_neg (show ¬ (false = true) by decide)] at H; exact H
         clear H;have H := H1
         clear H1;have H' := Am H
         clear H;have hnb35 := NB105_101.out;have hnc35 := NB101_105.out;obtain ⟨hcz36_0, hcz36_1, hfz36_0, hfz36_1⟩ := zc2 BK105;go_wp2
         go_meet
         case rel => exact ⟨_, (false), zG, H', ⟨by have := HJ3.out; have := HJ20.out; first | omega | exact Nat.le_refl _⟩, ⟨(zK BK101)⟩, ⟨(zK BK105)⟩, ⟨(zB HB)⟩⟩
       case rest =>
        clear HC30;(try clear c1);(try clear c2);(try clear p2);(try clear c3);(try clear c8);(try clear c9);(try clear c11);(try clear c12);(try clear c12b0);(try clear c13);(try clear c16);(try clear c19);(try clear c22);(try clear c23);(try clear c24);(try clear c26);(try clear c29);(try clear c31);(try clear c32);(try clear c35);(try clear hcz10_0);(try clear hcz10_1);(try clear hcz14_0);(try clear hcz14_1);(try clear hcz15_0);(try clear hcz15_1);(try clear hcz15_2);(try clear hcz17_0);(try clear hcz17_1);(try clear hcz18_0);(try clear hcz18_1);(try clear hcz18_2);(try clear hcz20_0);(try clear hcz20_1);(try clear hcz25_0);(try clear hcz25_1);(try clear hcz27_0);(try clear hcz27_1);(try clear hcz28_0);(try clear hcz28_1);(try clear hcz28_2);(try clear hcz33_0);(try clear hcz33_1);(try clear hcz34_0);(try clear hcz34_1);(try clear hcz34_2);(try clear hcz36_0);(try clear hcz36_1);(try clear hcz6_0);(try clear hcz6_1);(try clear hcz6_2);(try clear hfz10_0);(try clear hfz10_1);(try clear hfz14_0);(try clear hfz14_1);(try clear hfz15_0);(try clear hfz15_1);(try clear hfz15_2);(try clear hfz17_0);(try clear hfz17_1);(try clear hfz18_0);(try clear hfz18_1);(try clear hfz18_2);(try clear hfz20_0);(try clear hfz20_1);(try clear hfz25_0);(try clear hfz25_1);(try clear hfz27_0);(try clear hfz27_1);(try clear hfz28_0);(try clear hfz28_1);(try clear hfz28_2);(try clear hfz33_0);(try clear hfz33_1);(try clear hfz34_0);(try clear hfz34_1);(try clear hfz34_2);(try clear hfz36_0);(try clear hfz36_1);(try clear hfz6_0);(try clear hfz6_1);(try clear hfz6_2);(try clear p2);obtain ⟨kq, x34_29, rfl, HA, HJ29, BK101, BK105, HB⟩ := hcut
        cases kq with
        | zero => exact absurd HA.out (by simp [span_May.j2])
        | succ kj29 =>
         have H := HA.out;clear HA;simp only [span_May.j2] at H
         by_cases c37 : x34_29 = true
         ·subst c37
          have H1 : (some 3) = some r := by rw [if_pos rfl] at H; exact H
          clear H;have H := H1
          clear H1;obtain rfl := Option.some.inj H;go_wp2
          go_ret
          exact ⟨zF, (zB HB)⟩
         ·replace c37 := Bool.eq_false_iff.mpr c37
          subst c37
          have H1 : ((points_Valid.f a0_2).bind fun t106 => (if t106 = true then (some 0) else (some 3))) = some r := by rw [if_neg (show ¬ (false = true) by decide)] at H; exact H
          clear H;have H := H1
          clear H1;replace H := Option.bind_eq_some_iff.mp H;obtain ⟨t106, A380, H⟩ := H;replace H : (if t106 = true then (some 0) else (some 3)) = some r := H
          have A38 := Am A380;clear A380;by_cases c39 : t106 = true
          ·subst c39
           have H1 : (some 0) = some r := by rw [if_pos rfl] at H; exact H
           clear H;have H := H1
           clear H1;obtain rfl := Option.some.inj H;have hnb40 := NB101_105.out;have hnc40 := NB105_101.out;obtain ⟨hcz41_0, hcz41_1, hcz41_2, hfz41_0, hfz41_1, hfz41_2⟩ := zc3 BK101;go_wp2_with (first | ((with_reducible refine gate_callee (f := 55) rfl ?_); refine goesL_ (some 44) rfl rfl Tryd.func55 (by kernel_rfl) rfl #[.string a0_2] rfl zE ?_; (with_reducible refine (points_Valid.calls a0_2 true _ ?side1 A38.out).mono ?_); (case side1 => exact zg HG HB); rintro e w42 ⟨rfl, hb⟩; refine ⟨_, rfl, ?_⟩; replace BK101 := Am (zU BK101 hb);replace BK105 := Am (zU BK105 hb);replace HB := Am (below_step (zB HB) hb); (try clear hb)))
           go_ret
           exact ⟨zF, (zB HB)⟩
          ·replace c39 := Bool.eq_false_iff.mpr c39
           subst c39
           have H1 : (some 3) = some r := by rw [if_neg (show ¬ (false = true) by decide)] at H; exact H
           clear H;have H := H1
           clear H1;obtain rfl := Option.some.inj H;have hnb43 := NB101_105.out;have hnc43 := NB105_101.out;obtain ⟨hcz44_0, hcz44_1, hcz44_2, hfz44_0, hfz44_1, hfz44_2⟩ := zc3 BK101;go_wp2_with (first | ((with_reducible refine gate_callee (f := 55) rfl ?_); refine goesL_ (some 44) rfl rfl Tryd.func55 (by kernel_rfl) rfl #[.string a0_2] rfl zE ?_; (with_reducible refine (points_Valid.calls a0_2 false _ ?side1 A38.out).mono ?_); (case side1 => exact zg HG HB); rintro e w45 ⟨rfl, hb⟩; refine ⟨_, rfl, ?_⟩; replace BK101 := Am (zU BK101 hb);replace BK105 := Am (zU BK105 hb);replace HB := Am (below_step (zB HB) hb); (try clear hb)))
           go_ret
           exact ⟨zF, (zB HB)⟩
 ·replace c3 := Bool.eq_false_iff.mpr c3
  subst c3
  have H1 : (some 1) = some r := by rw [if_neg (show ¬ (false = true) by decide)] at H; exact H
  clear H;have H := H1
  clear H1;obtain rfl := Option.some.inj H;go_enter Tryd.func82, Tryd.ntmps82
  go_wp2_with (first | ((with_reducible refine gate_dst (N := 1) rfl ?_); refine box_event ?hg (N := 1) ?hd (cs := #[.int .i64 a0_0, .int .i64 a0_1, .string a0_2]) (t := 26) ?hr ?_; (case hd => rfl); (case hg => rfl); (case hr => first | (go_simp; done) | (go_simp; rfl)); intro gb101 hg w46 hbox hb; have BK101 := Am (hbox);have GW101 := Am (zO (w := w) HB hg);have GE101 := Am (zO (w := w) HB hg);replace HB := Am (below_step (zB HB) hb); clear hb hbox hg; obtain ⟨hcz47_0, hcz47_1, hcz47_2, hfz47_0, hfz47_1, hfz47_2⟩ := zc3 BK101) | ((with_reducible refine gate_callee (f := 83) rfl ?_); refine goesL_ (some 7) rfl rfl Tryd.func83 (by kernel_rfl) rfl #[.agg #[.int .i64 a0_0, .int .i64 a0_1, .string a0_2]] rfl zE ?_; (with_reducible refine (span_of.calls a0_0 a0_1 a0_2 t102 t103 false _ ?side1 A2.out).mono ?_); (case side1 => exact zg HG HB); rintro e w48 ⟨rfl, hb⟩; refine ⟨_, rfl, ?_⟩; replace BK101 := Am (zU BK101 hb);replace HB := Am (below_step (zB HB) hb); (try clear hb)) | ((with_reducible refine gate_dst (N := 3) rfl ?_); refine box_event ?hg (N := 3) ?hd (cs := #[.bool false, .bool false]) (t := 102) ?hr ?_; (case hd => rfl); (case hg => rfl); (case hr => first | (go_simp; done) | (go_simp; rfl)); intro gb105 hg w49 hbox hb; have BK105 := Am (hbox);have GW105 := Am (zO (w := w) HB hg);have GE105 := Am (zO (w := w) HB hg);replace HB := Am (below_step (zB HB) hb);have NB101_105 := Am ((by rw [hg]; exact Nat.ne_of_lt (zL BK101) : gb101 ≠ gb105));have NB105_101 := Am ((by rw [hg]; exact Nat.ne_of_gt (zL BK101) : gb105 ≠ gb101));replace BK101 := Am (zU BK101 hb); clear hb hbox hg; have hnb50 := NB105_101.out; have hnc50 := NB101_105.out; obtain ⟨hcz51_0, hcz51_1, hfz51_0, hfz51_1⟩ := zc2 BK105))
  go_ret
  exact ⟨zF, (zB HB)⟩
end Go.Proofs.YtkefbljogjcodaaDoor.F
end
section
namespace Go.Proofs.YtkefbljogjcodaaDoor.F
open Go.RowKit Go.Proofs.YtkefbljogjcodaaDoorW.PrintWords Go.Proofs.YtkefbljogjcodaaDoorW.PrintLast Go.Proofs.YtkefbljogjcodaaDoorW.PrintMore
attribute [local go_sem] max2_int min2_int max_two min_two max_three min_three max_four min_four cell_setCell_isSome
set_option linter.unusedVariables false
set_option linter.unusedSimpArgs false
open Kd
def op_May.l0 : Nat → List (S26) → List (S26) → Int → Int → Option (Int)
  | 0, _, _, _, _ => none
  | k + 1, x0, x6, x7, x8 => if x8 < x7 then (if 0 ≤ x8 then (if x8 < (x6.length : Int) then ((span_May.f k ((rd_T26 x6 x8).f0) ((rd_T26 x6 x8).f1) ((rd_T26 x6 x8).f2)).bind fun t103 => (if t103 = 0 then (op_May.l0 k x0 x6 x7 (wrap64 (x8 + 1))) else (some t103))) else (none)) else (none)) else ((op_In.f k x0).bind fun t104 => (if t104 > 1048576 then (some 4) else (some 0)))
def op_May.f (k : Nat) (l0 : List (S26)) : Option (Int) := op_May.l0 k l0 l0 (l0.length : Int) 0
set_option maxHeartbeats 40000000 in
set_option maxRecDepth 100000 in
theorem op_May.calls (k : Nat) (A0 : Option Addr) (c0 : Nat) (l0 : List (S26)) (r : Int) (w : World) (hG : Glob w) (hr0 : Kd.C k26 w A0 l0.length l0) (hc0 : l0.length ≤ c0) (h : op_May.f k l0 = some r) :
  Calls Tryd.prog 47 #[.slice A0 l0.length c0] w fun e w' => e = .returned (.int .i64 r) ∧ Below w.heap.size w w' := by
 have hu26 := Tryd.underlying26
 have HG := Am hG;clear hG;have HR0 := Am hr0;have HC0 := Am hc0;clear hr0 hc0;have HB := Am (Below.refl w.heap.size w)
 have H : (op_May.l0 k l0 l0 (l0.length : Int) 0) = some r := h
 clear h;have H' := Am H
 clear H;go_enter Tryd.func47, Tryd.ntmps47
 go_wp2
 go_loopg [8] k (fun kq v8 w' => ∃ (x8_1 : Int), v8 = .int .i64 x8_1 ∧ Aside0 (op_May.l0 kq l0 l0 (l0.length : Int) x8_1 = some r) ∧ Aside0 (kq ≤ k) ∧ Aside0 (Below w.heap.size w w'))
 case atStart => exact ⟨(0), zG, H', ⟨Nat.le_refl _⟩, ⟨(zB HB)⟩⟩
 case round =>
  clear H';obtain ⟨x8_1, rfl, HA, HK1, HB⟩ := hrel
  cases gk with
  | zero => exact absurd HA.out (by simp [op_May.l0])
  | succ k1 =>
   have H := HA.out;clear HA;simp only [op_May.l0] at H
   by_cases c2 : x8_1 < (l0.length : Int)
   ·rw [if_pos c2] at H;have c2b0 : decide (x8_1 < (l0.length : Int)) = true := decide_eq_true c2
    clear c2;by_cases c3 : 0 ≤ x8_1
    ·rw [if_pos c3] at H;have c3b0 : decide (0 ≤ x8_1) = true := decide_eq_true c3
     clear c3;by_cases c4 : x8_1 < (l0.length : Int)
     ·rw [if_pos c4] at H;have c4b0 : decide (x8_1 < (l0.length : Int)) = true := decide_eq_true c4
      clear c4;replace H := Option.bind_eq_some_iff.mp H;obtain ⟨t103, A50, H⟩ := H;replace H : (if t103 = 0 then (op_May.l0 k1 l0 l0 (l0.length : Int) (wrap64 (x8_1 + 1))) else (some t103)) = some r := H
      have A5 := Am A50;clear A50;by_cases c6 : t103 = 0
      ·rw [if_pos c6] at H;have c6b0 : (t103 == 0) = true := beq_iff_eq.mpr c6
       have c6b1 : (t103 != 0) = false := bne_eq_false_iff_eq.mpr c6
       clear c6;have H' := Am H
       clear H;have p101 : 0 ≤ (x8_1 : Int) := of_decide_eq_true (by assumption)
       have q101 : x8_1 < (l0.length : Int) := of_decide_eq_true (by assumption)
       obtain ⟨ad101, e101, hx101_0, hx101_1, hx101_2⟩ := at_T26 HR0.out x8_1 p101 q101
       cases e101
       replace hx101_0 := (HB.out.cell (World.block_lt_of_cell? w _ hx101_0)).trans hx101_0
       replace hx101_1 := (HB.out.cell (World.block_lt_of_cell? w _ hx101_1)).trans hx101_1
       replace hx101_2 := (HB.out.cell (World.block_lt_of_cell? w _ hx101_2)).trans hx101_2
       replace p101 := eq_true p101;replace q101 := eq_true q101;go_wp2_with (first | ((with_reducible refine gate_dst (N := 4) rfl ?_); refine box_event ?hg (N := 4) ?hd (cs := #[.int .i64 0, .int .i64 0, .string (⟨#[]⟩ : ByteArray)]) (t := 26) ?hr ?_; (case hd => rfl); (case hg => rfl); (case hr => first | (go_simp; done) | (go_simp; rfl)); intro gb102 hg w7 hbox hb; have BK102 := Am (hbox);have GW102 := Am (zO (w := w) HB hg);have GE102 := Am (zO (w := w) HB hg);replace HB := Am (below_step (zB HB) hb); clear hb hbox hg; obtain ⟨hcz8_0, hcz8_1, hcz8_2, hfz8_0, hfz8_1, hfz8_2⟩ := zc3 BK102) | ((with_reducible refine gate_callee (f := 82) rfl ?_); refine goesL_ (some 13) rfl rfl Tryd.func82 (by kernel_rfl) rfl #[.agg #[.int .i64 ((rd_T26 l0 x8_1).f0), .int .i64 ((rd_T26 l0 x8_1).f1), .string ((rd_T26 l0 x8_1).f2)]] rfl zE ?_; (with_reducible refine (span_May.calls k1 ((rd_T26 l0 x8_1).f0) ((rd_T26 l0 x8_1).f1) ((rd_T26 l0 x8_1).f2) t103 _ ?side1 A5.out).mono ?_); (case side1 => exact zg HG HB); rintro e w9 ⟨rfl, hb⟩; refine ⟨_, rfl, ?_⟩; replace BK102 := Am (blk_below (g := gb102) (o := .cells #[.int .i64 ((rd_T26 l0 x8_1).f0), .int .i64 ((rd_T26 l0 x8_1).f1), .string ((rd_T26 l0 x8_1).f2)] 26 (0, 0)) (zP BK102) hb);replace HB := Am (below_step (zB HB) hb); (try clear hb)))
       go_roundg k1
       case measure => have := HK1.out; omega
       case rel => exact ⟨(wrap64 (x8_1 + 1)), zG, H', ⟨by have := HK1.out; omega⟩, ⟨(zB HB)⟩⟩
      ·rw [if_neg c6] at H;have c6b0 : (t103 == 0) = false := beq_eq_false_iff_ne.mpr c6
       have c6b1 : (t103 != 0) = true := bne_iff_ne.mpr c6
       obtain rfl := Option.some.inj H;have p101 : 0 ≤ (x8_1 : Int) := of_decide_eq_true (by assumption)
       have q101 : x8_1 < (l0.length : Int) := of_decide_eq_true (by assumption)
       obtain ⟨ad101, e101, hx101_0, hx101_1, hx101_2⟩ := at_T26 HR0.out x8_1 p101 q101
       cases e101
       replace hx101_0 := (HB.out.cell (World.block_lt_of_cell? w _ hx101_0)).trans hx101_0
       replace hx101_1 := (HB.out.cell (World.block_lt_of_cell? w _ hx101_1)).trans hx101_1
       replace hx101_2 := (HB.out.cell (World.block_lt_of_cell? w _ hx101_2)).trans hx101_2
       replace p101 := eq_true p101;replace q101 := eq_true q101;go_wp2_with (first | ((with_reducible refine gate_dst (N := 4) rfl ?_); refine box_event ?hg (N := 4) ?hd (cs := #[.int .i64 0, .int .i64 0, .string (⟨#[]⟩ : ByteArray)]) (t := 26) ?hr ?_; (case hd => rfl); (case hg => rfl); (case hr => first | (go_simp; done) | (go_simp; rfl)); intro gb102 hg w10 hbox hb; have BK102 := Am (hbox);have GW102 := Am (zO (w := w) HB hg);have GE102 := Am (zO (w := w) HB hg);replace HB := Am (below_step (zB HB) hb); clear hb hbox hg; obtain ⟨hcz11_0, hcz11_1, hcz11_2, hfz11_0, hfz11_1, hfz11_2⟩ := zc3 BK102) | ((with_reducible refine gate_callee (f := 82) rfl ?_); refine goesL_ (some 13) rfl rfl Tryd.func82 (by kernel_rfl) rfl #[.agg #[.int .i64 ((rd_T26 l0 x8_1).f0), .int .i64 ((rd_T26 l0 x8_1).f1), .string ((rd_T26 l0 x8_1).f2)]] rfl zE ?_; (with_reducible refine (span_May.calls k1 ((rd_T26 l0 x8_1).f0) ((rd_T26 l0 x8_1).f1) ((rd_T26 l0 x8_1).f2) t103 _ ?side1 A5.out).mono ?_); (case side1 => exact zg HG HB); rintro e w12 ⟨rfl, hb⟩; refine ⟨_, rfl, ?_⟩; replace BK102 := Am (blk_below (g := gb102) (o := .cells #[.int .i64 ((rd_T26 l0 x8_1).f0), .int .i64 ((rd_T26 l0 x8_1).f1), .string ((rd_T26 l0 x8_1).f2)] 26 (0, 0)) (zP BK102) hb);replace HB := Am (below_step (zB HB) hb); (try clear hb)))
       go_ret
       exact ⟨zF, (zB HB)⟩
     ·rw [if_neg c4] at H;exact absurd H (by simp)
    ·rw [if_neg c3] at H;exact absurd H (by simp)
   ·rw [if_neg c2] at H;have c2b0 : decide (x8_1 < (l0.length : Int)) = false := decide_eq_false c2
    clear c2;replace H := Option.bind_eq_some_iff.mp H;obtain ⟨t104, A130, H⟩ := H;replace H : (if t104 > 1048576 then (some 4) else (some 0)) = some r := H
    have A13 := Am A130;clear A130;by_cases c14 : t104 > 1048576
    ·rw [if_pos c14] at H;have c14b0 : decide (1048576 < t104) = true := decide_eq_true c14
     clear c14;obtain rfl := Option.some.inj H;go_wp2_with (first | ((with_reducible refine gate_callee (f := 45) rfl ?_); refine goesL_ (some 19) rfl rfl Tryd.func45 (by kernel_rfl) rfl #[.slice A0 l0.length c0] rfl zE ?_; (with_reducible refine (op_In.calls k1 _ _ l0 t104 _ ?side1 ?side2 ?side3 A13.out).mono ?_); (case side1 => exact zg HG HB); (case side2 => exact zI (C_below HR0.out HB.out)); (case side3 => exact HC0.out); rintro e w15 ⟨rfl, hb⟩; refine ⟨_, rfl, ?_⟩; replace HB := Am (below_step (zB HB) hb); (try clear hb)))
     go_ret
     exact ⟨zF, (zB HB)⟩
    ·rw [if_neg c14] at H;have c14b0 : decide (1048576 < t104) = false := decide_eq_false c14
     clear c14;obtain rfl := Option.some.inj H;go_wp2_with (first | ((with_reducible refine gate_callee (f := 45) rfl ?_); refine goesL_ (some 19) rfl rfl Tryd.func45 (by kernel_rfl) rfl #[.slice A0 l0.length c0] rfl zE ?_; (with_reducible refine (op_In.calls k1 _ _ l0 t104 _ ?side1 ?side2 ?side3 A13.out).mono ?_); (case side1 => exact zg HG HB); (case side2 => exact zI (C_below HR0.out HB.out)); (case side3 => exact HC0.out); rintro e w16 ⟨rfl, hb⟩; refine ⟨_, rfl, ?_⟩; replace HB := Am (below_step (zB HB) hb); (try clear hb)))
     go_ret
     exact ⟨zF, (zB HB)⟩
end Go.Proofs.YtkefbljogjcodaaDoor.F
end
section
namespace Go.Proofs.YtkefbljogjcodaaDoor.F
open Go.RowKit Go.Proofs.YtkefbljogjcodaaDoorW.PrintWords Go.Proofs.YtkefbljogjcodaaDoorW.PrintLast Go.Proofs.YtkefbljogjcodaaDoorW.PrintMore
set_option linter.unusedVariables false
set_option linter.unusedSimpArgs false
def fillG (g : List Bool) (at_ n : Nat) (b : Bool) : List Bool := g.take at_ ++ List.replicate n b ++ g.drop (at_ + n)
def gapsL : List S26 → Nat → List ByteArray → List Bool → Option (List ByteArray × List Bool)
  | [], _, p, g => some (p, g)
  | s :: r, a, p, g => if a + s.f1.toNat ≤ 512 ∧ (p.getD a ⟨#[]⟩).size + s.f2.size ≤ 9223372036854775807 then
      gapsL r (a + s.f1.toNat) (p.set a (p.getD a ⟨#[]⟩ ++ s.f2)) (fillG g a s.f1.toNat (s.f0 == 3)) else none
def gaps_Of.f (k : Nat) (l : List S26) : Option (List ByteArray × List Bool × Int) :=
  (op_May.f k l).bind fun e => if e = 0 then ((op_In.f k l).bind fun n => if n > 512 then some ([], [], 4) else if 0 ≤ n then
    ((gapsL l 0 (List.replicate 513 ⟨#[]⟩) (List.replicate 512 false)).bind fun r => some (r.1.take (n.toNat + 1), r.2.take n.toNat, 0)) else none)
  else some ([], [], e)
theorem slice_arrP (W : World) (g n : Nat) (h : n ≤ 513) : (Instr.sliceAt 81 (.pointer (some ⟨g, 0, none⟩)) none (some (.int .i64 (n : Int))) none).run Tryd.prog W = .ok (.slice (some ⟨g, 0, none⟩) n 513) W := by
  have hl : Tryd.prog.arrayLen 81 = 513 := by kernel_rfl
  have hs : (Go.sizeOf (Tryd.prog.elem 81)).run Tryd.prog W = .ok 1 W := by kernel_rfl
  rw [run_sliceAt_array_h W 81 _ (by kernel_rfl) .i64 n (by omega) (by rw [hl]; omega), hs, hl]
  simp [slicedAt, Addr.add]
theorem slice_arrG (W : World) (g n : Nat) (h : n ≤ 512) : (Instr.sliceAt 82 (.pointer (some ⟨g, 0, none⟩)) none (some (.int .i64 (n : Int))) none).run Tryd.prog W = .ok (.slice (some ⟨g, 0, none⟩) n 512) W := by
  have hl : Tryd.prog.arrayLen 82 = 512 := by kernel_rfl
  have hs : (Go.sizeOf (Tryd.prog.elem 82)).run Tryd.prog W = .ok 1 W := by kernel_rfl
  rw [run_sliceAt_array_h W 82 _ (by kernel_rfl) .i64 n (by omega) (by rw [hl]; omega), hs, hl]
  simp [slicedAt, Addr.add]
structure OfSt (w wr : World) (gR gP gG : Nat) (put : List ByteArray) (gone : List Bool) : Prop where
  b : Below w.heap.size w wr
  r : wr.heap[gR]? = some (.cells #[.slice none 0 0, .slice none 0 0] 49 (0, 0))
  p : wr.heap[gP]? = some (.cells (put.map Value.string).toArray 81 (0, 0))
  g : wr.heap[gG]? = some (.cells (gone.map Value.bool).toArray 82 (0, 0))
  lp : put.length = 513
  lg : gone.length = 512
  hR : w.heap.size ≤ gR
  hP : w.heap.size ≤ gP
  hG : w.heap.size ≤ gG
theorem OfSt.below {w wr w3 : World} {gR gP gG : Nat} {put : List ByteArray} {gone : List Bool} (h : OfSt w wr gR gP gG put gone) (hb : Below wr.heap.size wr w3) : OfSt w w3 gR gP gG put gone :=
  ⟨below_step h.b hb, blk_below h.r hb, blk_below h.p hb, blk_below h.g hb, h.lp, h.lg, h.hR, h.hP, h.hG⟩
theorem OfSt.pg {w wr : World} {gR gP gG : Nat} {put : List ByteArray} {gone : List Bool} (h : OfSt w wr gR gP gG put gone) : gP ≠ gG := blk_ne h.p h.g (by decide)
theorem OfSt.rp {w wr : World} {gR gP gG : Nat} {put : List ByteArray} {gone : List Bool} (h : OfSt w wr gR gP gG put gone) : gR ≠ gP := blk_ne h.r h.p (by decide)
theorem OfSt.rg {w wr : World} {gR gP gG : Nat} {put : List ByteArray} {gone : List Bool} (h : OfSt w wr gR gP gG put gone) : gR ≠ gG := blk_ne h.r h.g (by decide)
theorem OfSt.setP {w wr : World} {gR gP gG : Nat} {put : List ByteArray} {gone : List Bool} (h : OfSt w wr gR gP gG put gone) (i : Nat) (u : ByteArray) : OfSt w (wr.setCell ⟨gP, i, none⟩ (.string u)) gR gP gG (put.set i u) gone :=
  ⟨h.b.setCell h.hP _, (Below.heap_setCell wr ⟨gP, i, none⟩ _ gR h.rp).trans h.r, blk_put h.p i _ (by simp [List.map_set]), (Below.heap_setCell wr ⟨gP, i, none⟩ _ gG h.pg.symm).trans h.g, by rw [List.length_set]; exact h.lp, h.lg, h.hR, h.hP, h.hG⟩
theorem OfSt.setG {w wr : World} {gR gP gG : Nat} {put : List ByteArray} {gone : List Bool} (h : OfSt w wr gR gP gG put gone) (i : Nat) (u : Bool) : OfSt w (wr.setCell ⟨gG, i, none⟩ (.bool u)) gR gP gG put (gone.set i u) :=
  ⟨h.b.setCell h.hG _, (Below.heap_setCell wr ⟨gG, i, none⟩ _ gR h.rg).trans h.r, (Below.heap_setCell wr ⟨gG, i, none⟩ _ gP h.pg).trans h.p, blk_put h.g i _ (by simp [List.map_set]), h.lp, by rw [List.length_set]; exact h.lg, h.hR, h.hP, h.hG⟩
theorem OfSt.cellP {w wr : World} {gR gP gG : Nat} {put : List ByteArray} {gone : List Bool} (h : OfSt w wr gR gP gG put gone) (i : Nat) (hi : i < 513) : wr.cell? ⟨gP, i, none⟩ = some (.string (put.getD i ⟨#[]⟩)) := by
  rw [blk_cell h.p i, List.getElem?_toArray, List.getElem?_map, List.getD_eq_getElem?_getD, List.getElem?_eq_getElem (by rw [h.lp]; exact hi)]
  rfl
theorem OfSt.cellG {w wr : World} {gR gP gG : Nat} {put : List ByteArray} {gone : List Bool} (h : OfSt w wr gR gP gG put gone) (i : Nat) (hi : i < 512) : wr.cell? ⟨gG, i, none⟩ = some (.bool (gone.getD i false)) := by
  rw [blk_cell h.g i, List.getElem?_toArray, List.getElem?_map, List.getD_eq_getElem?_getD, List.getElem?_eq_getElem (by rw [h.lg]; exact hi)]
  rfl
theorem of_vP {w wr : World} {gP : Nat} {put : List ByteArray} (hp : wr.heap[gP]? = some (.cells (put.map Value.string).toArray 81 (0, 0))) (hlen : put.length = 513) (hle : w.heap.size ≤ gP) (n : Nat) (hn : n ≤ 513) :
    Kd.V Kd.string 9 wr w.heap.size (fun k_ => w.heap.size ≤ k_) (.slice (some ⟨gP, 0, none⟩) n 513) (put.take n) := by
  have hl : (put.take n).length = n := by rw [List.length_take, hlen]; omega
  refine ⟨some ⟨gP, 0, none⟩, 513, by rw [hl], by omega, fun W' hW => ?_⟩
  have hb := (hW gP hle (blk_lt hp)).trans hp
  refine Kd.C_of_reads (enc := Value.string) (d := (⟨#[]⟩ : ByteArray)) (h1 := fun _ => rfl) ⟨rfl, by omega, fun _ => ⟨_, rfl, fun j hj => ?_⟩⟩
  rw [hl] at hj
  rw [add_plain, blk_cell hb j, List.getElem?_toArray, List.getElem?_map, List.getElem?_eq_getElem (by rw [hlen]; omega), List.getD_eq_getElem?_getD, List.getElem?_take, if_pos hj, List.getElem?_eq_getElem (by rw [hlen]; omega)]
  rfl
theorem of_vG {w wr : World} {gG : Nat} {gone : List Bool} (hp : wr.heap[gG]? = some (.cells (gone.map Value.bool).toArray 82 (0, 0))) (hlen : gone.length = 512) (hle : w.heap.size ≤ gG) (n : Nat) (hn : n ≤ 512) :
    Kd.V Kd.bool 4 wr w.heap.size (fun k_ => w.heap.size ≤ k_) (.slice (some ⟨gG, 0, none⟩) n 512) (gone.take n) := by
  have hl : (gone.take n).length = n := by rw [List.length_take, hlen]; omega
  refine ⟨some ⟨gG, 0, none⟩, 512, by rw [hl], by omega, fun W' hW => ?_⟩
  have hb := (hW gG hle (blk_lt hp)).trans hp
  refine Kd.C_of_reads (enc := Value.bool) (d := false) (h1 := fun _ => rfl) ⟨rfl, by omega, fun _ => ⟨_, rfl, fun j hj => ?_⟩⟩
  rw [hl] at hj
  rw [add_plain, blk_cell hb j, List.getElem?_toArray, List.getElem?_map, List.getElem?_eq_getElem (by rw [hlen]; omega), List.getD_eq_getElem?_getD, List.getElem?_take, if_pos hj, List.getElem?_eq_getElem (by rw [hlen]; omega)]
  rfl
theorem fillG_zero (g : List Bool) (a : Nat) (b : Bool) : fillG g a 0 b = g := by unfold fillG; simp
theorem fillG_step (g : List Bool) (a n : Nat) (b : Bool) (h : a + n < g.length) : (fillG g a n b).set (a + n) b = fillG g a (n + 1) b := by
  unfold fillG
  have e1 : g.drop (a + n) = g[a + n] :: g.drop (a + (n + 1)) := by rw [List.drop_eq_getElem_cons h]; rfl
  have l1 : (g.take a ++ List.replicate n b).length = a + n := by simp; omega
  rw [e1, List.set_append_right _ _ (by omega), l1, Nat.sub_self, List.set_cons_zero, List.replicate_succ', List.append_assoc, List.append_assoc, List.append_assoc]
  rfl
set_option maxHeartbeats 40000000 in
set_option maxRecDepth 100000 in
theorem gaps_Of_loop (k : Nat) (A0 : Option Addr) (c0 : Nat) (l0 : List S26) (n : Nat) (put : List ByteArray) (gone : List Bool) (w : World) (hG : Glob w)
    (hr0 : Kd.C k26 w A0 l0.length l0) (hc0 : l0.length ≤ c0) (h1 : op_May.f k l0 = some 0) (h2 : op_In.f k l0 = some (n : Int)) (hn : n ≤ 512)
    (h : gapsL l0 0 (List.replicate 513 ⟨#[]⟩) (List.replicate 512 false) = some (put, gone)) :
    Calls Tryd.prog 31 #[.slice A0 l0.length c0] w fun e w' => ∃ v0_ v1_ : Value, e = .returned (.tuple #[.agg #[v0_, v1_], .int .i64 0]) ∧ Kd.V Kd.string 9 w' w.heap.size (fun k_ => w.heap.size ≤ k_) v0_ (put.take (n + 1)) ∧ Kd.V Kd.bool 4 w' w.heap.size (fun k_ => w.heap.size ≤ k_) v1_ (gone.take n) ∧ Below w.heap.size w w' := by
  have HG := Aside0.mk hG
  have HR0 := Aside0.mk hr0
  have HC0 := Aside0.mk hc0
  have H1 := Aside0.mk h1
  have H2 := Aside0.mk h2
  have H := Aside0.mk h
  have HN := Aside0.mk hn
  have HM : Aside0 (l0.length ≤ 9223372036854775807) := ⟨hr0.2.1⟩
  have d1 : decide ((512 : Int) < (n : Int)) = false := decide_eq_false (by omega)
  clear hG hr0 hc0 h1 h2 h hn
  go_enter Tryd.func31, Tryd.ntmps31
  go_wp2_with (first | (go_at_call 47; (with_reducible refine (op_May.calls k _ _ l0 0 _ (HG.out.below (below_alloc (Below.refl _ _) _)) (Kd.C_alloc HR0.out _) HC0.out H1.out).mono ?_); rintro e w1 ⟨rfl, hb⟩; have HB1 := Aside0.mk hb; clear hb) | (go_at_call 45; (with_reducible refine (op_In.calls k _ _ l0 (n : Int) _ (HG.out.below (below_step (below_alloc (Below.refl _ _) _) HB1.out)) (Kd.C_below (Kd.C_alloc HR0.out _) HB1.out) HC0.out H2.out).mono ?_); rintro e w2 ⟨rfl, hb⟩; have HB2 := Aside0.mk hb; clear hb))
  have HI0 : Aside0 (OfSt w ((w2.alloc (.cells Tryd.zeroCells81 81)).alloc (.cells Tryd.zeroCells82 82)) w.heap.size w2.heap.size (w2.heap.size + 1) (List.replicate 513 ⟨#[]⟩) (List.replicate 512 false)) := ⟨by
    have b1 : Below w.heap.size w w2 := below_step (below_step (below_alloc (Below.refl _ _) _) HB1.out) HB2.out
    have z1 : w.heap.size < w1.heap.size := by have := HB1.out.size; rw [size_alloc] at this; omega
    have z2 : w1.heap.size ≤ w2.heap.size := HB2.out.size
    refine ⟨below_alloc (below_alloc b1 _) _, blk_alloc (blk_alloc (blk_below (blk_below (blk_new w _) HB1.out) HB2.out) _) _, ?_, ?_, by simp, by simp, Nat.le_refl _, by omega, by omega⟩
    · have := blk_alloc (blk_new w2 (.cells Tryd.zeroCells81 81)) (.cells Tryd.zeroCells82 82)
      rw [this]
      exact congrArg (fun c => some (Obj.cells c 81 (0, 0))) (by kernel_rfl)
    · have := blk_new (w2.alloc (.cells Tryd.zeroCells81 81)) (.cells Tryd.zeroCells82 82)
      rw [size_alloc] at this
      rw [this]
      exact congrArg (fun c => some (Obj.cells c 82 (0, 0))) (by kernel_rfl)⟩
  generalize w2.heap.size + 1 = gG at HI0 ⊢
  generalize w2.heap.size = gP at HI0 ⊢
  go_loopg [8, 24] l0.length (fun kq v8 v24 w' => ∃ (i a : Nat) (p : List ByteArray) (g : List Bool), v8 = .int .i64 a ∧ v24 = .int .i64 i ∧ Aside0 (i ≤ l0.length) ∧ Aside0 (kq = l0.length - i) ∧ Aside0 (a ≤ 512) ∧ Aside0 (OfSt w w' w.heap.size gP gG p g) ∧ Aside0 (gapsL (l0.drop i) a p g = some (put, gone)))
  case atStart => exact ⟨0, 0, _, _, rfl, rfl, ⟨Nat.zero_le _⟩, ⟨rfl⟩, ⟨Nat.zero_le _⟩, HI0, H⟩
  case round =>
    clear HI0 H
    obtain ⟨i, a, p, g, rfl, rfl, HI, HK, HA, ST, H⟩ := hrel
    by_cases hi : i < l0.length
    · have h := H.out
      rw [List.drop_eq_getElem_cons hi, gapsL] at h
      split at h
      · next hc =>
        obtain ⟨hc1, hc2⟩ := hc
        obtain ⟨s, hs⟩ : ∃ s, l0[i] = s := ⟨_, rfl⟩
        rw [hs] at h hc1 hc2
        obtain ⟨ad, e, hx0, hx1, hx2⟩ := at_T26 (Kd.C_below HR0.out ST.out.b) (i : Int) (by omega) (by omega)
        cases e
        have hrd : rd_T26 l0 (i : Int) = s := by
          unfold rd_T26
          rw [Int.toNat_natCast, List.getD_eq_getElem?_getD, List.getElem?_eq_getElem hi]
          exact hs
        rw [hrd, Int.toNat_natCast] at hx0 hx1 hx2
        have HNX := Aside0.mk h
        have STA := Aside0.mk (ST.out.below (below_alloc (Below.refl _ _) (.cells #[.int .i64 s.f0, .int .i64 s.f1, .string s.f2] 26)))
        have cp := STA.out.cellP a (by have := HA.out; omega)
        have fp := blk_frozen STA.out.p a
        obtain ⟨pa, hpa⟩ : ∃ pa, p.getD a ⟨#[]⟩ = pa := ⟨_, rfl⟩
        rw [hpa] at cp hc2
        have HPA := Aside0.mk hpa
        clear hpa
        have cs2 : (wr.alloc (.cells #[.int .i64 s.f0, .int .i64 s.f1, .string s.f2] 26)).cell? ⟨wr.heap.size, 2, none⟩ = some (.string s.f2) := (blk_cell (blk_new wr _) 2).trans rfl
        have i1 : decide (i < l0.length) = true := decide_eq_true hi
        have a1 : (a : Int) < 513 := by have := HA.out; omega
        have a2 : a < 513 := by have := HA.out; omega
        have HMI : Aside0 ((i : Int) < 9223372036854775807) := ⟨by have := HM.out; omega⟩
        clear h hs hrd
        go_wp2
        go_region
        obtain ⟨bx, hbx⟩ : ∃ bx, wr.heap.size = bx := ⟨_, rfl⟩
        have BX0 : (wr.alloc (.cells #[.int .i64 s.f0, .int .i64 s.f1, .string s.f2] 26)).heap[bx]? = some (.cells #[.int .i64 s.f0, .int .i64 s.f1, .string s.f2] 26 (0, 0)) := hbx ▸ blk_new wr _
        have hne : bx ≠ gP := by have := blk_lt ST.out.p; omega
        have hneG : Aside0 (bx ≠ gG) := ⟨by have := blk_lt ST.out.g; omega⟩
        have STB : Aside0 (OfSt w (((wr.alloc (.cells #[.int .i64 s.f0, .int .i64 s.f1, .string s.f2] 26)).setCell ⟨gP, a, none⟩ (.string (pa ++ s.f2))).drew) w.heap.size gP gG (p.set a (pa ++ s.f2)) g) := ⟨(STA.out.setP a (pa ++ s.f2)).below (below_drew1 (Below.refl _ _))⟩
        have BX : Aside0 ((((wr.alloc (.cells #[.int .i64 s.f0, .int .i64 s.f1, .string s.f2] 26)).setCell ⟨gP, a, none⟩ (.string (pa ++ s.f2))).drew).heap[bx]? = some (.cells #[.int .i64 s.f0, .int .i64 s.f1, .string s.f2] 26 (0, 0))) := ⟨blk_drew ((Below.heap_setCell _ ⟨gP, a, none⟩ _ bx hne).trans BX0)⟩
        rw [hbx]
        clear hbx BX0 cp fp cs2 STA
        generalize (((wr.alloc (.cells #[.int .i64 s.f0, .int .i64 s.f1, .string s.f2] 26)).setCell ⟨gP, a, none⟩ (.string (pa ++ s.f2))).drew) = wb at STB BX ⊢
        have cn : wb.cell? ⟨bx, 1, none⟩ = some (.int .i64 s.f1) := (blk_cell BX.out 1).trans rfl
        have HA2 : Aside0 (a + s.f1.toNat ≤ 512) := ⟨hc1⟩
        have HLG : Aside0 (g.length = 512) := ⟨ST.out.lg⟩
        clear hx0 hx1 hx2 hc1 hc2 a1 a2 hne
        go_wp2
        go_loopg [8, 37] s.f1.toNat (fun kq v8 v37 w' => ∃ (j c : Nat), v8 = .int .i64 c ∧ v37 = .int .i64 j ∧ Aside0 (c = a + j) ∧ Aside0 (j ≤ s.f1.toNat) ∧ Aside0 (kq = s.f1.toNat - j) ∧ Aside0 (OfSt w w' w.heap.size gP gG (p.set a (pa ++ s.f2)) (fillG g a j (s.f0 == 3))) ∧ Aside0 (w'.heap[bx]? = some (.cells #[.int .i64 s.f0, .int .i64 s.f1, .string s.f2] 26 (0, 0))))
        case atStart => exact ⟨0, a, rfl, rfl, ⟨rfl⟩, ⟨Nat.zero_le _⟩, ⟨rfl⟩, ⟨by rw [fillG_zero]; exact STB.out⟩, BX⟩
        case round =>
          clear STB BX cn ST
          obtain ⟨j, c, rfl, rfl, HC, HJ, HKJ, ST, BX⟩ := hrel
          by_cases hj : j < s.f1.toNat
          · have hc5 : c < 512 := by have := HC.out; have := HA2.out; omega
            have hc5i : (c : Int) < 512 := by omega
            have t1 : decide ((j : Int) < s.f1) = true := decide_eq_true (by omega)
            have cn : wr.cell? ⟨bx, 0, none⟩ = some (.int .i64 s.f0) := (blk_cell BX.out 0).trans rfl
            have cg := ST.out.cellG c hc5
            have fg := blk_frozen ST.out.g c
            have jm : (j : Int) < 9223372036854775807 := by have := HA2.out; omega
            have ST2 : Aside0 (OfSt w (wr.setCell ⟨gG, c, none⟩ (.bool (s.f0 == 3))) w.heap.size gP gG (p.set a (pa ++ s.f2)) (fillG g a (j + 1) (s.f0 == 3))) := ⟨by
              have h2 := ST.out.setG c (s.f0 == 3)
              rw [HC.out, fillG_step g a j _ (by have := HLG.out; have := HA2.out; omega), ← HC.out] at h2
              exact h2⟩
            have BX2 : Aside0 ((wr.setCell ⟨gG, c, none⟩ (.bool (s.f0 == 3))).heap[bx]? = some (.cells #[.int .i64 s.f0, .int .i64 s.f1, .string s.f2] 26 (0, 0))) := ⟨(Below.heap_setCell _ ⟨gG, c, none⟩ _ bx hneG.out).trans BX.out⟩
            generalize (fillG g a j (s.f0 == 3)).getD c false = og at cg
            go_wp2
            go_roundg (s.f1.toNat - (j + 1))
            case measure => have := HKJ.out; omega
            case rel => exact ⟨j + 1, c + 1, by go_num, by go_num, ⟨by have := HC.out; omega⟩, ⟨by omega⟩, ⟨rfl⟩, ST2, BX2⟩
          · have t1 : decide ((j : Int) < s.f1) = false := decide_eq_false (by omega)
            have hje : j = s.f1.toNat := by have := HJ.out; omega
            have HC' : Aside0 (c = a + s.f1.toNat) := ⟨by rw [← hje]; exact HC.out⟩
            have STF : Aside0 (OfSt w wr w.heap.size gP gG (p.set a (pa ++ s.f2)) (fillG g a s.f1.toNat (s.f0 == 3))) := ⟨by rw [← hje]; exact ST.out⟩
            have im := HMI.out
            clear hje hj
            go_wp2
            go_roundg (l0.length - (i + 1))
            case measure => have := HK.out; omega
            case rel => exact ⟨i + 1, c, _, _, rfl, by go_num, ⟨by omega⟩, ⟨rfl⟩, ⟨by have := HC'.out; have := HA2.out; omega⟩, STF, ⟨by have := HNX.out; rw [HPA.out] at this; rw [HC'.out]; exact this⟩⟩
      · cases h
    · have hl : l0.length ≤ i := by omega
      have h := H.out
      rw [List.drop_eq_nil_of_le hl] at h
      obtain ⟨rfl, rfl⟩ : p = put ∧ g = gone := by simpa [gapsL] using h
      have i1 : decide (i < l0.length) = false := decide_eq_false hi
      have n1 : n ≤ 512 := HN.out
      have n2 : (n : Int) ≤ 512 := by omega
      have n3 : (n : Int) + 1 ≤ 513 := by omega
      have cr0 : wr.cell? ⟨w.heap.size, 0, none⟩ = some (.slice none 0 0) := (blk_cell ST.out.r 0).trans rfl
      have cr1 : wr.cell? ⟨w.heap.size, 1, none⟩ = some (.slice none 0 0) := (blk_cell ST.out.r 1).trans rfl
      have fr0 := blk_frozen ST.out.r 0
      have fr1 := blk_frozen ST.out.r 1
      have sP : ∀ W, (Instr.sliceAt 81 (.pointer (some ⟨gP, 0, none⟩)) none (some (.int .i64 ((n : Int) + 1))) none).run Tryd.prog W = .ok (.slice (some ⟨gP, 0, none⟩) (n + 1) 513) W := fun W => by
        have := slice_arrP W gP (n + 1) (by omega)
        rwa [show ((n + 1 : Nat) : Int) = (n : Int) + 1 by omega] at this
      have sG := fun W => slice_arrG W gG n (by omega)
      clear h hl hi
      go_wp2
      go_region
      go_wp2
      refine bodyPost_ret (results_ct rfl _ _ w.heap.size 49 #[.slice (some ⟨gP, 0, none⟩) (n + 1) 513, .slice (some ⟨gG, 0, none⟩) n 512] (0, 0) _ rfl (by refine blk_drew ?_; refine blk_put (cs := #[.slice (some ⟨gP, 0, none⟩) (n + 1) 513, .slice none 0 0]) ?_ 1 _ rfl; exact blk_put (cs := #[.slice none 0 0, .slice none 0 0]) ST.out.r 0 _ rfl) Tryd.underlying49 rfl (by kernel_rfl)) rfl ?_
      have hne1 := ST.out.rp
      have hne2 := ST.out.rg
      refine ⟨_, _, rfl, of_vP (blk_drew ((Below.heap_setCell _ ⟨w.heap.size, 1, none⟩ _ gP hne1.symm).trans ((Below.heap_setCell _ ⟨w.heap.size, 0, none⟩ _ gP hne1.symm).trans ST.out.p))) ST.out.lp ST.out.hP (n + 1) (by omega),
        of_vG (blk_drew ((Below.heap_setCell _ ⟨w.heap.size, 1, none⟩ _ gG hne2.symm).trans ((Below.heap_setCell _ ⟨w.heap.size, 0, none⟩ _ gG hne2.symm).trans ST.out.g))) ST.out.lg ST.out.hG n (by omega), ?_⟩
      exact below_drew1 (below_set (below_set ST.out.b (Nat.le_refl _)) (Nat.le_refl _))
set_option maxHeartbeats 40000000 in
set_option maxRecDepth 100000 in
theorem gaps_Of.calls (k : Nat) (A0 : Option Addr) (c0 : Nat) (l0 : List S26) (r1 : List ByteArray) (r2 : List Bool) (r3 : Int) (w : World) (hG : Glob w) (hr0 : Kd.C k26 w A0 l0.length l0) (hc0 : l0.length ≤ c0) (h : gaps_Of.f k l0 = some (r1, r2, r3)) :
  Calls Tryd.prog 31 #[.slice A0 l0.length c0] w fun e w' => ∃ v0_ v1_ : Value, e = .returned (.tuple #[.agg #[v0_, v1_], .int .i64 r3]) ∧ Kd.V Kd.string 9 w' w.heap.size (fun k_ => w.heap.size ≤ k_) v0_ r1 ∧ Kd.V Kd.bool 4 w' w.heap.size (fun k_ => w.heap.size ≤ k_) v1_ r2 ∧ Below w.heap.size w w' := by
 unfold gaps_Of.f at h
 obtain ⟨e, h1, h⟩ := Option.bind_eq_some_iff.1 h
 split at h
 ·next he =>
  subst he
  obtain ⟨n, h2, h⟩ := Option.bind_eq_some_iff.1 h
  split at h
  ·next hn =>
   obtain ⟨rfl, rfl, rfl⟩ : [] = r1 ∧ [] = r2 ∧ 4 = r3 := by simpa using h
   have HG := Aside0.mk hG;have HR0 := Aside0.mk hr0;have HC0 := Aside0.mk hc0;have H1 := Aside0.mk h1;have H2 := Aside0.mk h2;have d1 : decide ((512 : Int) < n) = true := decide_eq_true hn
   clear hG hr0 hc0 h1 h2 h hn;go_enter Tryd.func31, Tryd.ntmps31
   go_wp2_with (first | (go_at_call 47; (with_reducible refine (op_May.calls k _ _ l0 0 _ (HG.out.below (below_alloc (Below.refl _ _) _)) (Kd.C_alloc HR0.out _) HC0.out H1.out).mono ?_); rintro e w1 ⟨rfl, hb⟩; have HB1 := Aside0.mk hb; clear hb) | (go_at_call 45; (with_reducible refine (op_In.calls k _ _ l0 n _ (HG.out.below (below_step (below_alloc (Below.refl _ _) _) HB1.out)) (Kd.C_below (Kd.C_alloc HR0.out _) HB1.out) HC0.out H2.out).mono ?_); rintro e w2 ⟨rfl, hb⟩; have HB2 := Aside0.mk hb; have bk := blk_below (blk_below (blk_new w (.cells #[.slice none 0 0, .slice none 0 0] 49)) HB1.out) hb; have cr0 : w2.cell? ⟨w.heap.size, 0, none⟩ = some (.slice none 0 0) := (blk_cell bk 0).trans rfl; have cr1 : w2.cell? ⟨w.heap.size, 1, none⟩ = some (.slice none 0 0) := (blk_cell bk 1).trans rfl; have fr0 := blk_frozen bk 0; have fr1 := blk_frozen bk 1; have BK := Aside0.mk bk; clear hb bk))
   refine bodyPost_ret (results_ct rfl _ _ w.heap.size 49 #[.slice none 0 0, .slice none 0 0] (0, 0) _ rfl (by refine blk_put (cs := #[.slice none 0 0, .slice none 0 0]) ?_ 1 _ rfl; exact blk_put (cs := #[.slice none 0 0, .slice none 0 0]) BK.out 0 _ rfl) Tryd.underlying49 rfl (by kernel_rfl)) rfl ?_
   exact ⟨_, _, rfl, Kd.V_nil _ _ _ _ _, Kd.V_nil _ _ _ _ _, below_set (below_set (below_step (below_step (below_alloc (Below.refl _ _) _) HB1.out) HB2.out) (Nat.le_refl _)) (Nat.le_refl _)⟩
  ·next hn =>
   split at h
   ·next h0 =>
    obtain ⟨⟨p, g⟩, h3, h4⟩ := Option.bind_eq_some_iff.1 h
    obtain ⟨m, rfl⟩ := Int.eq_ofNat_of_zero_le h0
    obtain ⟨rfl, rfl, rfl⟩ : p.take (m + 1) = r1 ∧ g.take m = r2 ∧ 0 = r3 := by simpa using h4
    exact gaps_Of_loop k A0 c0 l0 m p g w hG hr0 hc0 h1 h2 (by omega) h3
   ·cases h
 ·next he =>
  obtain ⟨rfl, rfl, rfl⟩ : [] = r1 ∧ [] = r2 ∧ e = r3 := by simpa using h
  have HG := Aside0.mk hG;have HR0 := Aside0.mk hr0;have HC0 := Aside0.mk hc0;have H1 := Aside0.mk h1;have d1 : (e != 0) = true := by simp [he]
  clear hG hr0 hc0 h1 h he;go_enter Tryd.func31, Tryd.ntmps31
  go_wp2_with (go_at_call 47; (with_reducible refine (op_May.calls k _ _ l0 e _ (HG.out.below (below_alloc (Below.refl _ _) _)) (Kd.C_alloc HR0.out _) HC0.out H1.out).mono ?_); rintro e2 w1 ⟨rfl, hb⟩; have bk := blk_below (blk_new w (.cells #[.slice none 0 0, .slice none 0 0] 49)) hb; have cr0 : w1.cell? ⟨w.heap.size, 0, none⟩ = some (.slice none 0 0) := (blk_cell bk 0).trans rfl; have cr1 : w1.cell? ⟨w.heap.size, 1, none⟩ = some (.slice none 0 0) := (blk_cell bk 1).trans rfl; have fr0 := blk_frozen bk 0; have fr1 := blk_frozen bk 1; have BK := Aside0.mk bk; have HB1 := Aside0.mk hb; clear hb bk)
  refine bodyPost_ret (results_ct rfl _ _ w.heap.size 49 #[.slice none 0 0, .slice none 0 0] (0, 0) _ rfl (by refine blk_put (cs := #[.slice none 0 0, .slice none 0 0]) ?_ 1 _ rfl; exact blk_put (cs := #[.slice none 0 0, .slice none 0 0]) BK.out 0 _ rfl) Tryd.underlying49 rfl (by kernel_rfl)) rfl ?_
  exact ⟨_, _, rfl, Kd.V_nil _ _ _ _ _, Kd.V_nil _ _ _ _ _, below_set (below_set (below_step (below_alloc (Below.refl _ _) _) HB1.out) (Nat.le_refl _)) (Nat.le_refl _)⟩
end Go.Proofs.YtkefbljogjcodaaDoor.F
end
section
namespace Go.Proofs.YtkefbljogjcodaaDoor.F
open Go.RowKit Go.Proofs.YtkefbljogjcodaaDoorW.PrintWords Go.Proofs.YtkefbljogjcodaaDoorW.PrintLast Go.Proofs.YtkefbljogjcodaaDoorW.PrintMore
attribute [local go_sem] max2_int min2_int max_two min_two max_three min_three max_four min_four cell_setCell_isSome
set_option linter.unusedVariables false
set_option linter.unusedSimpArgs false
open Kd
def epitomelaw06_shown.f (k : Nat)  : Option (Bool) := (gaps_Of.f k (([(⟨1, 1, (⟨#[]⟩ : ByteArray)⟩ : S26), (⟨3, 1, (⟨#[]⟩ : ByteArray)⟩ : S26), (⟨2, 0, (⟨#[120]⟩ : ByteArray)⟩ : S26)] : List (S26)))).bind fun bt104 => (if bt104.2.2 = 0 then ((epitomeref06_Same.f k bt104.1 bt104.2.1 (([(⟨#[]⟩ : ByteArray), (⟨#[]⟩ : ByteArray), (⟨#[120]⟩ : ByteArray)] : List ByteArray)) (([false, true] : List Bool))).bind fun t118 => (some t118)) else (some false))
set_option maxHeartbeats 40000000 in
set_option maxRecDepth 100000 in
theorem epitomelaw06_shown.calls (k : Nat)  (r : Bool) (w : World) (hG : Glob w) (h : epitomelaw06_shown.f k  = some r) :
  Calls Tryd.prog 44 #[] w fun e w' => e = .returned (.bool r) ∧ Below w.heap.size w w' := by
 have hu26 := Tryd.underlying26
 have hu49 := Tryd.underlying49
 have HG := Am hG;clear hG;have HB := Am (Below.refl w.heap.size w)
 have H : ((gaps_Of.f k (([(⟨1, 1, (⟨#[]⟩ : ByteArray)⟩ : S26), (⟨3, 1, (⟨#[]⟩ : ByteArray)⟩ : S26), (⟨2, 0, (⟨#[120]⟩ : ByteArray)⟩ : S26)] : List (S26)))).bind fun bt104 => (if bt104.2.2 = 0 then ((epitomeref06_Same.f k bt104.1 bt104.2.1 (([(⟨#[]⟩ : ByteArray), (⟨#[]⟩ : ByteArray), (⟨#[120]⟩ : ByteArray)] : List ByteArray)) (([false, true] : List Bool))).bind fun t118 => (some t118)) else (some false))) = some r := h
 clear h;obtain ⟨y101, hy101⟩ : ∃ y_ : List (S26), y_ = (([(⟨1, 1, (⟨#[]⟩ : ByteArray)⟩ : S26), (⟨3, 1, (⟨#[]⟩ : ByteArray)⟩ : S26), (⟨2, 0, (⟨#[120]⟩ : ByteArray)⟩ : S26)] : List (S26))) := ⟨_, rfl⟩
 replace H : ((gaps_Of.f k y101).bind fun bt104 => (if bt104.2.2 = 0 then ((epitomeref06_Same.f k bt104.1 bt104.2.1 (([(⟨#[]⟩ : ByteArray), (⟨#[]⟩ : ByteArray), (⟨#[120]⟩ : ByteArray)] : List ByteArray)) (([false, true] : List Bool))).bind fun t118 => (some t118)) else (some false))) = some r := by first | (rw [hy101]; with_reducible exact H) | (have H2_ := (Option.bind_some _ _).symm.trans H; rw [hy101]; with_reducible exact H2_) | (have H2_ := (Option.bind_some _ _).symm.trans H; with_reducible exact H2_) | with_reducible exact H | (rw [hy101]; exact H) | exact H
 have Ny101 := Am hy101;clear hy101;replace H := Option.bind_eq_some_iff.mp H;obtain ⟨⟨t104, t107, t110⟩, A10, H⟩ := H;have A1 := Am A10;clear A10;by_cases c2 : t110 = 0
 ·rw [if_pos c2] at H;have c2b0 : (t110 == 0) = true := beq_iff_eq.mpr c2
  have c2b1 : (t110 != 0) = false := bne_eq_false_iff_eq.mpr c2
  clear c2;obtain ⟨y112, hy112⟩ : ∃ y_ : List ByteArray, y_ = (([(⟨#[]⟩ : ByteArray), (⟨#[]⟩ : ByteArray), (⟨#[120]⟩ : ByteArray)] : List ByteArray)) := ⟨_, rfl⟩
  replace H : ((epitomeref06_Same.f k t104 t107 y112 (([false, true] : List Bool))).bind fun t118 => (some t118)) = some r := by first | (rw [hy112]; with_reducible exact H) | (have H2_ := (Option.bind_some _ _).symm.trans H; rw [hy112]; with_reducible exact H2_) | (have H2_ := (Option.bind_some _ _).symm.trans H; with_reducible exact H2_) | with_reducible exact H | (rw [hy112]; exact H) | exact H
  have Ny112 := Am hy112;clear hy112;obtain ⟨y115, hy115⟩ : ∃ y_ : List Bool, y_ = (([false, true] : List Bool)) := ⟨_, rfl⟩
  replace H : ((epitomeref06_Same.f k t104 t107 y112 y115).bind fun t118 => (some t118)) = some r := by first | (rw [hy115]; with_reducible exact H) | (have H2_ := (Option.bind_some _ _).symm.trans H; rw [hy115]; with_reducible exact H2_) | (have H2_ := (Option.bind_some _ _).symm.trans H; with_reducible exact H2_) | with_reducible exact H | (rw [hy115]; exact H) | exact H
  have Ny115 := Am hy115;clear hy115;replace H := Option.bind_eq_some_iff.mp H;obtain ⟨t118, A30, H⟩ := H;replace H : (some t118) = some r := H
  have A3 := Am A30;clear A30;obtain rfl := Option.some.inj H;go_enter Tryd.func44, Tryd.ntmps44
  go_wp2_with (first | ((with_reducible refine gate_dst (N := 7) rfl ?_); (try (refine gate_guard (by rfl) ?_; dsimp only)); refine R_lit k26 _ 26 ?hg (N := 7) ?hd (xs := ([(⟨1, 1, (⟨#[]⟩ : ByteArray)⟩ : S26), (⟨3, 1, (⟨#[]⟩ : ByteArray)⟩ : S26), (⟨2, 0, (⟨#[120]⟩ : ByteArray)⟩ : S26)] : List (S26))) (inner := [.int .i64 1, .int .i64 1, .string (⟨#[]⟩ : ByteArray), .int .i64 3, .int .i64 1, .string (⟨#[]⟩ : ByteArray), .int .i64 2, .int .i64 0, .string (⟨#[120]⟩ : ByteArray)]) (ok := fun _ => True) (okp := fun _ => True) ?hr ?hp (fun _ hk => hk) trivial (Below.refl _ _) (Nat.le_refl _) (by simp) ?_; (case hd => rfl); (case hg => rfl); (case hr => first | (go_simp; done) | (go_simp; rfl)); (case hp => exact (Reps.c3 (show Kd.M k26 _ _ _ (⟨1, 1, (⟨#[]⟩ : ByteArray)⟩ : S26) [.int .i64 1, .int .i64 1, .string (⟨#[]⟩ : ByteArray)] from (k26_mkM _ _ _ (⟨1, 1, (⟨#[]⟩ : ByteArray)⟩ : S26) )) (Reps.c3 (show Kd.M k26 _ _ _ (⟨3, 1, (⟨#[]⟩ : ByteArray)⟩ : S26) [.int .i64 3, .int .i64 1, .string (⟨#[]⟩ : ByteArray)] from (k26_mkM _ _ _ (⟨3, 1, (⟨#[]⟩ : ByteArray)⟩ : S26) )) (Reps.c3 (show Kd.M k26 _ _ _ (⟨2, 0, (⟨#[120]⟩ : ByteArray)⟩ : S26) [.int .i64 2, .int .i64 0, .string (⟨#[120]⟩ : ByteArray)] from (k26_mkM _ _ _ (⟨2, 0, (⟨#[120]⟩ : ByteArray)⟩ : S26) )) (Reps.none _ _))))); intro v102 w4 ho5 hb hg_ hnew_; clear hg_ hnew_; (first | rw [← Ny101.out] at ho5 | (simp only [Int.reduceToNat] at ho5; rw [← Ny101.out] at ho5)); have HO103 := Am (R_lower ho5 (below_size (zB HB)));replace HB := Am (below_step (zB HB) hb); clear hb ho5; obtain ⟨Ao6, co6, eo6⟩ := R_slice HO103.out; subst eo6) | ((with_reducible refine gate_callee (f := 31) rfl ?_); refine goesL_ (some 8) rfl rfl Tryd.func31 (by kernel_rfl) rfl #[.slice Ao6 y101.length co6] rfl zE ?_; (with_reducible refine (gaps_Of.calls k _ _ y101 t104 t107 t110 _ ?side1 ?side2 ?side3 A1.out).mono ?_); (case side1 => exact zg HG HB); (case side2 => exact zI (R_reads' HO103.out).2.2); (case side3 => exact (R_reads' HO103.out).2.1); rintro e w7 ⟨v105, v108, rfl, ho0, ho1, hb⟩; refine ⟨_, rfl, ?_⟩; have HO106 := Am (Kd.V_lower (Kd.V_mono (ok' := fun k_ => some k_ ≠ (.slice Ao6 y101.length co6 : Value).ownBlock) ho0 (fun k_ hk_ => (Kd.fresh' (R_lt (zR HO103)) k_ hk_))) (below_size (zB HB)));have HO109 := Am (Kd.V_lower (Kd.V_mono (ok' := fun k_ => some k_ ≠ (.slice Ao6 y101.length co6 : Value).ownBlock) ho1 (fun k_ hk_ => (Kd.fresh' (R_lt (zR HO103)) k_ hk_))) (below_size (zB HB)));replace HO103 := Am (R_below (zR HO103) hb);replace HB := Am (below_step (zB HB) hb); (try clear hb); (try clear ho0); (try clear ho1)) | ((with_reducible refine gate_dst (N := 1) rfl ?_); (try (refine gate_guard (by rfl) ?_; dsimp only)); refine box_event ?hg (N := 1) ?hd (cs := #[.slice none 0 0, .slice none 0 0]) (t := 49) ?hr ?_; (case hd => rfl); (case hg => rfl); (case hr => first | (go_simp; done) | (go_simp; rfl)); intro gb111 hg w8 hbox hb; replace HO103 := Am (R_below (zR HO103) hb);replace HO106 := Am (Kd.V_below (Kd.V_elderB (zV HO106) gb111 (Nat.le_of_eq hg.symm)) hb);replace HO109 := Am (Kd.V_below (Kd.V_elderB (zV HO109) gb111 (Nat.le_of_eq hg.symm)) hb);have BK111 := Am (hbox);have GW111 := Am (zO (w := w) HB hg);have GE111 := Am (zO (w := w) HB hg);replace HB := Am (below_step (zB HB) hb); clear hb hbox hg; obtain ⟨Ao9, co9, eo9⟩ := Kd.V_slice HO106.out; subst eo9; obtain ⟨hcz10_0, hcz10_1, hfz10_0, hfz10_1⟩ := zc2 BK111; obtain ⟨Ao11, co11, eo11⟩ := Kd.V_slice HO109.out; subst eo11) | ((with_reducible refine gate_dst (N := 15) rfl ?_); (try (refine gate_guard (by rfl) ?_; dsimp only)); refine R_lit Kd.string _ 9 ?hg (N := 15) ?hd (xs := ([(⟨#[]⟩ : ByteArray), (⟨#[]⟩ : ByteArray), (⟨#[120]⟩ : ByteArray)] : List ByteArray)) (inner := [.string (⟨#[]⟩ : ByteArray), .string (⟨#[]⟩ : ByteArray), .string (⟨#[120]⟩ : ByteArray)]) (ok := fun _ => True) (okp := fun _ => True) ?hr ?hp (fun _ hk => hk) trivial (Below.refl _ _) (Nat.le_refl _) (by simp) ?_; (case hd => rfl); (case hg => rfl); (case hr => first | (go_simp; done) | (go_simp; rfl)); (case hp => exact (Reps.one (show Kd.M Kd.string _ _ _ (⟨#[]⟩ : ByteArray) [.string (⟨#[]⟩ : ByteArray)] from rfl) (Reps.one (show Kd.M Kd.string _ _ _ (⟨#[]⟩ : ByteArray) [.string (⟨#[]⟩ : ByteArray)] from rfl) (Reps.one (show Kd.M Kd.string _ _ _ (⟨#[120]⟩ : ByteArray) [.string (⟨#[120]⟩ : ByteArray)] from rfl) (Reps.none _ _))))); intro v113 w12 ho13 hb hg_ hnew_; clear hg_ hnew_; (first | rw [← Ny112.out] at ho13 | (simp only [Int.reduceToNat] at ho13; rw [← Ny112.out] at ho13)); replace HO103 := Am (R_below (by (with_reducible repeat (first | apply R_alloc | apply R_drewN | apply R_drew)); exact (R_mono (R_far (p := ⟨gb111, 1, none⟩) (R_far (p := ⟨gb111, 0, none⟩) (R_types HO103.out BK111.out (by decide)) (fun _ hk => hk.2) (.slice Ao9 t104.length co9)) (fun _ hk => hk.2) (.slice Ao11 t107.length co11)) (fun _ h_ => h_.1))) hb);replace HO106 := Am (Kd.V_elder' (by (with_reducible repeat (first | apply Kd.V_alloc | apply Kd.V_drewN | apply Kd.V_drew)); exact (Kd.V_mono (Kd.V_far (p := ⟨gb111, 1, none⟩) (Kd.V_far (p := ⟨gb111, 0, none⟩) (Kd.V_mono HO106.out (fun k_ hk => (⟨hk, hk.2⟩ : _ ∧ k_ ≠ gb111))) (fun _ hk => hk.2) (.slice Ao9 t104.length co9)) (fun _ hk => hk.2) (.slice Ao11 t107.length co11)) (fun _ h_ => h_.1))) (R_base ho13) hb);replace HO109 := Am (Kd.V_elder' (by (with_reducible repeat (first | apply Kd.V_alloc | apply Kd.V_drewN | apply Kd.V_drew)); exact (Kd.V_mono (Kd.V_far (p := ⟨gb111, 1, none⟩) (Kd.V_far (p := ⟨gb111, 0, none⟩) (Kd.V_mono HO109.out (fun k_ hk => (⟨hk, hk.2⟩ : _ ∧ k_ ≠ gb111))) (fun _ hk => hk.2) (.slice Ao9 t104.length co9)) (fun _ hk => hk.2) (.slice Ao11 t107.length co11)) (fun _ h_ => h_.1))) (R_base ho13) hb);have HO114 := Am (R_lower ho13 (below_size (zB HB)));replace BK111 := Am (blk_below (g := gb111) (o := .cells #[.slice Ao9 t104.length co9, .slice Ao11 t107.length co11] 49 (0, 0)) (zP BK111) hb);replace HB := Am (below_step (zB HB) hb); clear hb ho13) | ((with_reducible refine gate_dst (N := 16) rfl ?_); (try (refine gate_guard (by rfl) ?_; dsimp only)); refine R_lit Kd.bool _ 4 ?hg (N := 16) ?hd (xs := ([false, true] : List Bool)) (inner := [.bool false, .bool true]) (ok := fun _ => True) (okp := fun _ => True) ?hr ?hp (fun _ hk => hk) trivial (Below.refl _ _) (Nat.le_refl _) (by simp) ?_; (case hd => rfl); (case hg => rfl); (case hr => first | (go_simp; done) | (go_simp; rfl)); (case hp => exact (Reps.one (show Kd.M Kd.bool _ _ _ false [.bool false] from rfl) (Reps.one (show Kd.M Kd.bool _ _ _ true [.bool true] from rfl) (Reps.none _ _)))); intro v116 w14 ho15 hb hg_ hnew_; clear hg_ hnew_; (first | rw [← Ny115.out] at ho15 | (simp only [Int.reduceToNat] at ho15; rw [← Ny115.out] at ho15)); replace HO103 := Am (R_below (zR HO103) hb);replace HO106 := Am (Kd.V_elder' (zV HO106) (R_base ho15) hb);replace HO109 := Am (Kd.V_elder' (zV HO109) (R_base ho15) hb);replace HO114 := Am (R_below (zR HO114) hb);have HO117 := Am (R_lower ho15 (below_size (zB HB)));replace BK111 := Am (zU BK111 hb);replace HB := Am (below_step (zB HB) hb); clear hb ho15; obtain ⟨Ao16, co16, eo16⟩ := R_slice HO117.out; subst eo16; obtain ⟨Ao17, co17, eo17⟩ := R_slice HO114.out; subst eo17) | (go_at_call 34; (with_reducible refine (epitomeref06_Same.calls k _ _ t104 _ _ t107 _ _ y112 _ _ y115 t118 _ ?side1 ?side2 ?side3 ?side4 ?side5 ?side6 ?side7 ?side8 A3.out).mono ?_); (case side1 => repeat (first | exact (Kd.V_reads' HO106.out).2.2 | (with_reducible refine C_alloc ?_ _) | (with_reducible refine C_drewN ?_ _) | (with_reducible refine C_drew ?_))); (case side2 => exact (Kd.V_reads' HO106.out).2.1); (case side3 => repeat (first | exact (Kd.V_reads' HO109.out).2.2 | (with_reducible refine C_alloc ?_ _) | (with_reducible refine C_drewN ?_ _) | (with_reducible refine C_drew ?_))); (case side4 => exact (Kd.V_reads' HO109.out).2.1); (case side5 => exact zI (R_reads' HO114.out).2.2); (case side6 => exact (R_reads' HO114.out).2.1); (case side7 => exact zI (R_reads' HO117.out).2.2); (case side8 => exact (R_reads' HO117.out).2.1); rintro e w18 ⟨rfl, hb⟩; replace HO103 := Am (R_below (zR HO103) hb);replace HO106 := Am (Kd.V_below (zV HO106) hb);replace HO109 := Am (Kd.V_below (zV HO109) hb);replace HO114 := Am (R_below (zR HO114) hb);replace HO117 := Am (R_below (zR HO117) hb);replace BK111 := Am (zU BK111 hb);replace HB := Am (below_step (zB HB) hb); (try clear hb)))
  go_ret
  exact ⟨zF, (zB HB)⟩
 ·rw [if_neg c2] at H;have c2b0 : (t110 == 0) = false := beq_eq_false_iff_ne.mpr c2
  have c2b1 : (t110 != 0) = true := bne_iff_ne.mpr c2
  obtain rfl := Option.some.inj H;go_enter Tryd.func44, Tryd.ntmps44
  go_wp2_with (first | ((with_reducible refine gate_dst (N := 7) rfl ?_); (try (refine gate_guard (by rfl) ?_; dsimp only)); refine R_lit k26 _ 26 ?hg (N := 7) ?hd (xs := ([(⟨1, 1, (⟨#[]⟩ : ByteArray)⟩ : S26), (⟨3, 1, (⟨#[]⟩ : ByteArray)⟩ : S26), (⟨2, 0, (⟨#[120]⟩ : ByteArray)⟩ : S26)] : List (S26))) (inner := [.int .i64 1, .int .i64 1, .string (⟨#[]⟩ : ByteArray), .int .i64 3, .int .i64 1, .string (⟨#[]⟩ : ByteArray), .int .i64 2, .int .i64 0, .string (⟨#[120]⟩ : ByteArray)]) (ok := fun _ => True) (okp := fun _ => True) ?hr ?hp (fun _ hk => hk) trivial (Below.refl _ _) (Nat.le_refl _) (by simp) ?_; (case hd => rfl); (case hg => rfl); (case hr => first | (go_simp; done) | (go_simp; rfl)); (case hp => exact (Reps.c3 (show Kd.M k26 _ _ _ (⟨1, 1, (⟨#[]⟩ : ByteArray)⟩ : S26) [.int .i64 1, .int .i64 1, .string (⟨#[]⟩ : ByteArray)] from (k26_mkM _ _ _ (⟨1, 1, (⟨#[]⟩ : ByteArray)⟩ : S26) )) (Reps.c3 (show Kd.M k26 _ _ _ (⟨3, 1, (⟨#[]⟩ : ByteArray)⟩ : S26) [.int .i64 3, .int .i64 1, .string (⟨#[]⟩ : ByteArray)] from (k26_mkM _ _ _ (⟨3, 1, (⟨#[]⟩ : ByteArray)⟩ : S26) )) (Reps.c3 (show Kd.M k26 _ _ _ (⟨2, 0, (⟨#[120]⟩ : ByteArray)⟩ : S26) [.int .i64 2, .int .i64 0, .string (⟨#[120]⟩ : ByteArray)] from (k26_mkM _ _ _ (⟨2, 0, (⟨#[120]⟩ : ByteArray)⟩ : S26) )) (Reps.none _ _))))); intro v102 w19 ho20 hb hg_ hnew_; clear hg_ hnew_; (first | rw [← Ny101.out] at ho20 | (simp only [Int.reduceToNat] at ho20; rw [← Ny101.out] at ho20)); have HO103 := Am (R_lower ho20 (below_size (zB HB)));replace HB := Am (below_step (zB HB) hb); clear hb ho20; obtain ⟨Ao21, co21, eo21⟩ := R_slice HO103.out; subst eo21) | ((with_reducible refine gate_callee (f := 31) rfl ?_); refine goesL_ (some 8) rfl rfl Tryd.func31 (by kernel_rfl) rfl #[.slice Ao21 y101.length co21] rfl zE ?_; (with_reducible refine (gaps_Of.calls k _ _ y101 t104 t107 t110 _ ?side1 ?side2 ?side3 A1.out).mono ?_); (case side1 => exact zg HG HB); (case side2 => exact zI (R_reads' HO103.out).2.2); (case side3 => exact (R_reads' HO103.out).2.1); rintro e w22 ⟨v105, v108, rfl, ho0, ho1, hb⟩; refine ⟨_, rfl, ?_⟩; have HO106 := Am (Kd.V_lower (Kd.V_mono (ok' := fun k_ => some k_ ≠ (.slice Ao21 y101.length co21 : Value).ownBlock) ho0 (fun k_ hk_ => (Kd.fresh' (R_lt (zR HO103)) k_ hk_))) (below_size (zB HB)));have HO109 := Am (Kd.V_lower (Kd.V_mono (ok' := fun k_ => some k_ ≠ (.slice Ao21 y101.length co21 : Value).ownBlock) ho1 (fun k_ hk_ => (Kd.fresh' (R_lt (zR HO103)) k_ hk_))) (below_size (zB HB)));replace HO103 := Am (R_below (zR HO103) hb);replace HB := Am (below_step (zB HB) hb); (try clear hb); (try clear ho0); (try clear ho1)) | ((with_reducible refine gate_dst (N := 1) rfl ?_); (try (refine gate_guard (by rfl) ?_; dsimp only)); refine box_event ?hg (N := 1) ?hd (cs := #[.slice none 0 0, .slice none 0 0]) (t := 49) ?hr ?_; (case hd => rfl); (case hg => rfl); (case hr => first | (go_simp; done) | (go_simp; rfl)); intro gb111 hg w23 hbox hb; replace HO103 := Am (R_below (zR HO103) hb);replace HO106 := Am (Kd.V_below (Kd.V_elderB (zV HO106) gb111 (Nat.le_of_eq hg.symm)) hb);replace HO109 := Am (Kd.V_below (Kd.V_elderB (zV HO109) gb111 (Nat.le_of_eq hg.symm)) hb);have BK111 := Am (hbox);have GW111 := Am (zO (w := w) HB hg);have GE111 := Am (zO (w := w) HB hg);replace HB := Am (below_step (zB HB) hb); clear hb hbox hg; obtain ⟨Ao24, co24, eo24⟩ := Kd.V_slice HO106.out; subst eo24; obtain ⟨hcz25_0, hcz25_1, hfz25_0, hfz25_1⟩ := zc2 BK111; obtain ⟨Ao26, co26, eo26⟩ := Kd.V_slice HO109.out; subst eo26))
  go_ret
  exact ⟨zF, (zB HB)⟩
end Go.Proofs.YtkefbljogjcodaaDoor.F
end
section
namespace Go.Proofs.YtkefbljogjcodaaDoor.F
open Go.RowKit Go.Proofs.YtkefbljogjcodaaDoorW.PrintWords Go.Proofs.YtkefbljogjcodaaDoorW.PrintLast Go.Proofs.YtkefbljogjcodaaDoorW.PrintMore
attribute [local go_sem] max2_int min2_int max_two min_two max_three min_three max_four min_four cell_setCell_isSome
set_option linter.unusedVariables false
set_option linter.unusedSimpArgs false
open Kd
def epitomeref01_size.j0 : Nat → Int → Bool → Option (Int)
  | 0, _, _ => none
  | k + 1, x0, x16 => if x16 = true then (some 0) else (if x0 < 128 then (some 1) else (if x0 < 2048 then (some 2) else (if x0 < 65536 then (some 3) else (some 4))))
def epitomeref01_size.f (k : Nat) (a0 : Int) : Option (Int) := if a0 < 0 then (epitomeref01_size.j0 k a0 true) else (if a0 > 1114111 then (epitomeref01_size.j0 k a0 true) else (if a0 ≥ 55296 then (epitomeref01_size.j0 k a0 (decide (a0 ≤ 57343))) else (epitomeref01_size.j0 k a0 false)))
set_option maxHeartbeats 40000000 in
set_option maxRecDepth 100000 in
theorem epitomeref01_size.calls (k : Nat) (a0 : Int) (r : Int) (w : World) (h : epitomeref01_size.f k a0 = some r) :
  Calls Tryd.prog 81 #[.int .i64 a0] w fun e w' => e = .returned (.int .i64 r) ∧ Drawn0 w w' := by
 have H : (if a0 < 0 then (epitomeref01_size.j0 k a0 true) else (if a0 > 1114111 then (epitomeref01_size.j0 k a0 true) else (if a0 ≥ 55296 then (epitomeref01_size.j0 k a0 (decide (a0 ≤ 57343))) else (epitomeref01_size.j0 k a0 false)))) = some r := h
 clear h;have HC2 := Am H;clear H;go_enter Tryd.func81, Tryd.ntmps81
 go_upto_region 1 with (fail)
 go_cut [16] (fun v16 wc => ∃ (kq : Nat) (x16_1 : Bool), v16 = .bool x16_1 ∧ Aside0 (epitomeref01_size.j0 kq a0 x16_1 = some r) ∧ Aside0 (kq ≤ k) ∧ Drawn0 w wc)
 case first =>
  have H := HC2.out;clear HC2;by_cases c3 : a0 < 0
  ·rw [if_pos c3] at H;have c3b0 : decide (a0 < 0) = true := decide_eq_true c3
   clear c3;(first | rw [c3b0] | (simp only [i64_w, i32_w]; rw [c3b0]) | skip)
   have H' := Am H
   clear H;go_wp2
   go_meet
   case rel => exact ⟨_, (true), zG, H', ⟨by first | omega | exact Nat.le_refl _⟩, zD⟩
  ·rw [if_neg c3] at H;have c3b0 : decide (a0 < 0) = false := decide_eq_false c3
   clear c3;(first | rw [c3b0] | (simp only [i64_w, i32_w]; rw [c3b0]) | skip)
   by_cases c4 : a0 > 1114111
   ·rw [if_pos c4] at H;have c4b0 : decide (1114111 < a0) = true := decide_eq_true c4
    clear c4;have H' := Am H
    clear H;go_wp2
    go_meet
    case rel => exact ⟨_, (true), zG, H', ⟨by first | omega | exact Nat.le_refl _⟩, zD⟩
   ·rw [if_neg c4] at H;have c4b0 : decide (1114111 < a0) = false := decide_eq_false c4
    clear c4;by_cases c5 : a0 ≥ 55296
    ·rw [if_pos c5] at H;have c5b0 : decide (55296 ≤ a0) = true := decide_eq_true c5
     clear c5;have H' := Am H
     clear H;go_wp2
     go_meet
     case rel => exact ⟨_, (decide (a0 ≤ 57343)), zG, H', ⟨by first | omega | exact Nat.le_refl _⟩, zD⟩
    ·rw [if_neg c5] at H;have c5b0 : decide (55296 ≤ a0) = false := decide_eq_false c5
     clear c5;have H' := Am H
     clear H;go_wp2
     go_meet
     case rel => exact ⟨_, (false), zG, H', ⟨by first | omega | exact Nat.le_refl _⟩, zD⟩
 case rest =>
  clear HC2;(try clear p2);(try clear c3);(try clear c3b0);(try clear c4);(try clear c4b0);(try clear c5);(try clear c5b0);obtain ⟨kq, x16_1, rfl, HA, HJ1, ⟨mc1, rfl⟩⟩ := hcut
  cases kq with
  | zero => exact absurd HA.out (by simp [epitomeref01_size.j0])
  | succ kj1 =>
   have H := HA.out;clear HA;simp only [epitomeref01_size.j0] at H
   by_cases c6 : x16_1 = true
   ·subst c6
    have H1 : (some 0) = some r := by rw [if_pos rfl] at H; exact H
    clear H;have H := H1
    clear H1;obtain rfl := Option.some.inj H;go_wp2
    go_ret
    exact ⟨zG, zD⟩
   ·replace c6 := Bool.eq_false_iff.mpr c6
    subst c6
    have H1 : (if a0 < 128 then (some 1) else (if a0 < 2048 then (some 2) else (if a0 < 65536 then (some 3) else (some 4)))) = some r := by rw [if_neg (show ¬ (false = true) by decide)] at H; exact H
    clear H;have H := H1
    clear H1;by_cases c7 : a0 < 128
    ·rw [if_pos c7] at H;have c7b0 : decide (a0 < 128) = true := decide_eq_true c7
     clear c7;obtain rfl := Option.some.inj H;go_wp2
     go_ret
     exact ⟨zG, zD⟩
    ·rw [if_neg c7] at H;have c7b0 : decide (a0 < 128) = false := decide_eq_false c7
     clear c7;by_cases c8 : a0 < 2048
     ·rw [if_pos c8] at H;have c8b0 : decide (a0 < 2048) = true := decide_eq_true c8
      clear c8;obtain rfl := Option.some.inj H;go_wp2
      go_ret
      exact ⟨zG, zD⟩
     ·rw [if_neg c8] at H;have c8b0 : decide (a0 < 2048) = false := decide_eq_false c8
      clear c8;by_cases c9 : a0 < 65536
      ·rw [if_pos c9] at H;have c9b0 : decide (a0 < 65536) = true := decide_eq_true c9
       clear c9;obtain rfl := Option.some.inj H;go_wp2
       go_ret
       exact ⟨zG, zD⟩
      ·rw [if_neg c9] at H;have c9b0 : decide (a0 < 65536) = false := decide_eq_false c9
       clear c9;obtain rfl := Option.some.inj H;go_wp2
       go_ret
       exact ⟨zG, zD⟩
end Go.Proofs.YtkefbljogjcodaaDoor.F
end
section
namespace Go.Proofs.YtkefbljogjcodaaDoor.F
open Go.RowKit Go.Proofs.YtkefbljogjcodaaDoorW.PrintWords Go.Proofs.YtkefbljogjcodaaDoorW.PrintLast Go.Proofs.YtkefbljogjcodaaDoorW.PrintMore
attribute [local go_sem] max2_int min2_int max_two min_two max_three min_three max_four min_four cell_setCell_isSome
set_option linter.unusedVariables false
set_option linter.unusedSimpArgs false
open Kd
def epitomeref01_Of.l0 : Nat → List Int → List Int → Int → Option (ByteArray)
  | 0, _, _, _ => none
  | k + 1, x0, x3, x4 => if x4 < (x0.length : Int) then (if 0 ≤ x4 then ((epitomeref01_size.f k (wrap64 (rd x0 x4))).bind fun t105 => (if t105 = 1 then (if x3.length < 140737488355328 then (epitomeref01_Of.l0 k x0 (x3 ++ [(wrap64 (rd x0 x4)) % 256]) (wrap64 (x4 + 1))) else (none)) else (if t105 = 2 then ((some (([(wrap64 (192 + (wrap64 (Int.tdiv (wrap64 (rd x0 x4)) 64)))) % 256, (wrap64 (128 + (Int.tmod (wrap64 (rd x0 x4)) 64))) % 256] : List Int) : List Int)).bind fun y109 => (if x3.length + y109.length < 140737488355328 then (epitomeref01_Of.l0 k x0 (x3 ++ y109) (wrap64 (x4 + 1))) else (none))) else (if t105 = 3 then ((some (([(wrap64 (224 + (wrap64 (Int.tdiv (wrap64 (rd x0 x4)) 4096)))) % 256, (wrap64 (128 + (Int.tmod (wrap64 (Int.tdiv (wrap64 (rd x0 x4)) 64)) 64))) % 256, (wrap64 (128 + (Int.tmod (wrap64 (rd x0 x4)) 64))) % 256] : List Int) : List Int)).bind fun y115 => (if x3.length + y115.length < 140737488355328 then (epitomeref01_Of.l0 k x0 (x3 ++ y115) (wrap64 (x4 + 1))) else (none))) else (if t105 = 4 then ((some (([(wrap64 (240 + (wrap64 (Int.tdiv (wrap64 (rd x0 x4)) 262144)))) % 256, (wrap64 (128 + (Int.tmod (wrap64 (Int.tdiv (wrap64 (rd x0 x4)) 4096)) 64))) % 256, (wrap64 (128 + (Int.tmod (wrap64 (Int.tdiv (wrap64 (rd x0 x4)) 64)) 64))) % 256, (wrap64 (128 + (Int.tmod (wrap64 (rd x0 x4)) 64))) % 256] : List Int) : List Int)).bind fun y121 => (if x3.length + y121.length < 140737488355328 then (epitomeref01_Of.l0 k x0 (x3 ++ y121) (wrap64 (x4 + 1))) else (none))) else (epitomeref01_Of.l0 k x0 x3 (wrap64 (x4 + 1)))))))) else (none)) else (some (strOfNums x3))
def epitomeref01_Of.f (k : Nat) (l0 : List Int) : Option (ByteArray) := epitomeref01_Of.l0 k l0 (([] : List Int)) 0
set_option maxHeartbeats 40000000 in
set_option maxRecDepth 100000 in
theorem epitomeref01_Of.calls (k : Nat) (A0 : Option Addr) (c0 : Nat) (l0 : List Int) (r : ByteArray) (w : World) (hr0 : Kd.C (Kd.int .i32) w A0 l0.length l0) (hc0 : l0.length ≤ c0) (h : epitomeref01_Of.f k l0 = some r) :
  Calls Tryd.prog 46 #[.slice A0 l0.length c0] w fun e w' => e = .returned (.string r) ∧ Below w.heap.size w w' := by
 have HR0 := Am hr0;have HC0 := Am hc0;clear hr0 hc0;have HB := Am (Below.refl w.heap.size w)
 have H : (epitomeref01_Of.l0 k l0 (([] : List Int)) 0) = some r := h
 clear h;obtain ⟨y101, hy101⟩ : ∃ y_ : List Int, y_ = (([] : List Int)) := ⟨_, rfl⟩
 replace H : (epitomeref01_Of.l0 k l0 y101 0) = some r := by first | (rw [hy101]; with_reducible exact H) | (have H2_ := (Option.bind_some _ _).symm.trans H; rw [hy101]; with_reducible exact H2_) | (have H2_ := (Option.bind_some _ _).symm.trans H; with_reducible exact H2_) | with_reducible exact H | (rw [hy101]; exact H) | exact H
 have Ny101 := Am hy101;clear hy101;have H' := Am H
 clear H;go_enter Tryd.func46, Tryd.ntmps46
 go_wp2_with (first | ((with_reducible refine gate_dst (N := 6) rfl ?_); refine R_lit (Kd.int .u8) _ 5 ?hg (N := 6) ?hd (xs := ([] : List Int)) (inner := []) (ok := fun _ => True) (okp := fun _ => True) ?hr ?hp (fun _ hk => hk) trivial (Below.refl _ _) (Nat.le_refl _) (by simp) ?_; (case hd => rfl); (case hg => rfl); (case hr => first | (go_simp; done) | (go_simp; rfl)); (case hp => exact (Reps.none _ _)); intro v102 w2 ho3 hb hg_ hnew_; clear hg_ hnew_; (first | rw [← Ny101.out] at ho3 | (simp only [Int.reduceToNat] at ho3; rw [← Ny101.out] at ho3)); have HO103 := Am (R_lower ho3 (below_size (zB HB)));replace HB := Am (below_step (zB HB) hb); clear hb ho3))
 go_loopg [3, 4] k (fun kq v3 v4 w' => ∃ (x3_1 : List Int) (x4_1 : Int), v4 = .int .i64 x4_1 ∧ Aside0 (epitomeref01_Of.l0 kq l0 x3_1 x4_1 = some r) ∧ Aside0 (kq ≤ k) ∧ Aside0 (Kd.R (Kd.int .u8) 5 w' w.heap.size (fun _ => True) v3 x3_1) ∧ Aside0 (Below w.heap.size w w'))
 case atStart => exact ⟨(y101), (0), zG, H', ⟨Nat.le_refl _⟩, ⟨(zR HO103)⟩, ⟨(zB HB)⟩⟩
 case round =>
  clear H';(try clear p2);obtain ⟨x3_1, x4_1, rfl, HA, HK1, HO_3, HB⟩ := hrel
  cases gk with
  | zero => exact absurd HA.out (by simp [epitomeref01_Of.l0])
  | succ k1 =>
   have H := HA.out;clear HA;simp only [epitomeref01_Of.l0] at H
   by_cases c4 : x4_1 < (l0.length : Int)
   ·rw [if_pos c4] at H;have c4b0 : decide (x4_1 < (l0.length : Int)) = true := decide_eq_true c4
    clear c4;by_cases c5 : 0 ≤ x4_1
    ·rw [if_pos c5] at H;have c5b0 : decide (0 ≤ x4_1) = true := decide_eq_true c5
     clear c5;replace H := Option.bind_eq_some_iff.mp H;obtain ⟨t105, A60, H⟩ := H;have A6 := Am A60;clear A60;by_cases c7 : t105 = 1
     ·rw [if_pos c7] at H;have c7b0 : (t105 == 1) = true := beq_iff_eq.mpr c7
      have c7b1 : (t105 != 1) = false := bne_eq_false_iff_eq.mpr c7
      clear c7;by_cases c8 : x3_1.length < 140737488355328
      ·rw [if_pos c8] at H;have LMc8 := Am c8;clear c8;obtain ⟨y106, hy106⟩ : ∃ y_ : List Int, y_ = (x3_1 ++ [(wrap64 (rd l0 x4_1)) % 256]) := ⟨_, rfl⟩
       replace H : (epitomeref01_Of.l0 k1 l0 y106 (wrap64 (x4_1 + 1))) = some r := by first | (rw [hy106]; with_reducible exact H) | (have H2_ := (Option.bind_some _ _).symm.trans H; rw [hy106]; with_reducible exact H2_) | (have H2_ := (Option.bind_some _ _).symm.trans H; with_reducible exact H2_) | with_reducible exact H | (rw [hy106]; exact H) | exact H
       have Ny106 := Am hy106;clear hy106;have H' := Am H
       clear H;have p104 : 0 ≤ (x4_1 : Int) := of_decide_eq_true (by assumption)
       have q104 : x4_1 < (l0.length : Int) := of_decide_eq_true (by assumption)
       obtain ⟨ad104, e104, hx104_0⟩ := Kd.at_int HR0.out x4_1 p104 q104
       cases e104
       replace hx104_0 := (HB.out.cell (World.block_lt_of_cell? w _ hx104_0)).trans hx104_0
       replace p104 := eq_true p104;replace q104 := eq_true q104;go_wp2_with (first | ((with_reducible refine gate_callee (f := 81) rfl ?_); refine goesL_ (some 19) rfl rfl Tryd.func81 (by kernel_rfl) rfl #[.int .i64 (wrap64 (rd l0 x4_1))] rfl zE ?_; (with_reducible refine (epitomeref01_size.calls k1 (wrap64 (rd l0 x4_1)) t105 _ A6.out).mono ?_); rintro e w' ⟨rfl, ⟨nd, rfl⟩⟩; refine ⟨_, rfl, ?_⟩) | ((with_reducible refine gate_builtin (b := .append) (xs := #[.tmp 22, .tmp 25]) rfl ?_); at_builtin; refine R_append (Kd.int .u8) (w0 := w) w.heap.size rfl (.tmp 22) (.tmp 25) 98 5 (.int .u8 0) 1 rfl Tryd.underlying98 info5 rfl (by decide) (by omega) u3 x3_1 ((wrap64 (rd l0 x4_1)) % 256) [.int .u8 ((wrap64 (rd l0 x4_1)) % 256)] (fun _ => True) (fun _ => False) rfl rfl ?aP (fun _ hk => hk.elim) ?aF ?aO ?aB ?aS ?aL ?_; (case aP => exact rfl); (case aB => exact (zB HB)); (case aF => exact (fun _ _ => trivial)); (case aO => exact (zR HO_3)); (case aS => exact (below_size (zB HB))); (case aL => have := LMc8.out; omega); intro v107 w9 ho hb hg hat; rw [← Ny106.out] at ho; replace HB := Am (hb);have HO108 := Am (ho);clear HO_3; clear ho hb hg hat))
       go_roundg k1
       case measure => have := HK1.out; omega
       case rel => exact ⟨(y106), (wrap64 (x4_1 + 1)), zG, H', ⟨by have := HK1.out; omega⟩, ⟨(zR HO108)⟩, ⟨(zB HB)⟩⟩
      ·rw [if_neg c8] at H;exact absurd H (by simp)
     ·rw [if_neg c7] at H;have c7b0 : (t105 == 1) = false := beq_eq_false_iff_ne.mpr c7
      have c7b1 : (t105 != 1) = true := bne_iff_ne.mpr c7
      by_cases c10 : t105 = 2
      ·rw [if_pos c10] at H;have c10b0 : (t105 == 2) = true := beq_iff_eq.mpr c10
       have c10b1 : (t105 != 2) = false := bne_eq_false_iff_eq.mpr c10
       clear c10;obtain ⟨y109, hy109⟩ : ∃ y_ : List Int, y_ = (([(wrap64 (192 + (wrap64 (Int.tdiv (wrap64 (rd l0 x4_1)) 64)))) % 256, (wrap64 (128 + (Int.tmod (wrap64 (rd l0 x4_1)) 64))) % 256] : List Int)) := ⟨_, rfl⟩
       replace H : (if x3_1.length + y109.length < 140737488355328 then (epitomeref01_Of.l0 k1 l0 (x3_1 ++ y109) (wrap64 (x4_1 + 1))) else (none)) = some r := by first | (rw [hy109]; with_reducible exact H) | (have H2_ := (Option.bind_some _ _).symm.trans H; rw [hy109]; with_reducible exact H2_) | (have H2_ := (Option.bind_some _ _).symm.trans H; with_reducible exact H2_) | with_reducible exact H | (rw [hy109]; exact H) | exact H
       have Ny109 := Am hy109;clear hy109;by_cases c11 : x3_1.length + y109.length < 140737488355328
       ·rw [if_pos c11] at H;have LMc11 := Am c11;clear c11;obtain ⟨y112, hy112⟩ : ∃ y_ : List Int, y_ = (x3_1 ++ y109) := ⟨_, rfl⟩
        replace H : (epitomeref01_Of.l0 k1 l0 y112 (wrap64 (x4_1 + 1))) = some r := by first | (rw [hy112]; with_reducible exact H) | (have H2_ := (Option.bind_some _ _).symm.trans H; rw [hy112]; with_reducible exact H2_) | (have H2_ := (Option.bind_some _ _).symm.trans H; with_reducible exact H2_) | with_reducible exact H | (rw [hy112]; exact H) | exact H
        have Ny112 := Am hy112;clear hy112;have H' := Am H
        clear H;have p104 : 0 ≤ (x4_1 : Int) := of_decide_eq_true (by assumption)
        have q104 : x4_1 < (l0.length : Int) := of_decide_eq_true (by assumption)
        obtain ⟨ad104, e104, hx104_0⟩ := Kd.at_int HR0.out x4_1 p104 q104
        cases e104
        replace hx104_0 := (HB.out.cell (World.block_lt_of_cell? w _ hx104_0)).trans hx104_0
        replace p104 := eq_true p104;replace q104 := eq_true q104;go_wp2_with (first | ((with_reducible refine gate_callee (f := 81) rfl ?_); refine goesL_ (some 19) rfl rfl Tryd.func81 (by kernel_rfl) rfl #[.int .i64 (wrap64 (rd l0 x4_1))] rfl zE ?_; (with_reducible refine (epitomeref01_size.calls k1 (wrap64 (rd l0 x4_1)) t105 _ A6.out).mono ?_); rintro e w' ⟨rfl, ⟨nd, rfl⟩⟩; refine ⟨_, rfl, ?_⟩) | ((with_reducible refine gate_dst (N := 38) rfl ?_); refine R_lit (Kd.int .u8) _ 5 ?hg (N := 38) ?hd (xs := ([(wrap64 (192 + (wrap64 (Int.tdiv (wrap64 (rd l0 x4_1)) 64)))) % 256, (wrap64 (128 + (Int.tmod (wrap64 (rd l0 x4_1)) 64))) % 256] : List Int)) (inner := [.int .u8 ((wrap64 (192 + (wrap64 (Int.tdiv (wrap64 (rd l0 x4_1)) 64)))) % 256), .int .u8 ((wrap64 (128 + (Int.tmod (wrap64 (rd l0 x4_1)) 64))) % 256)]) (ok := fun _ => True) (okp := fun _ => True) ?hr ?hp (fun _ hk => hk) trivial (Below.refl _ _) (Nat.le_refl _) (by simp) ?_; (case hd => rfl); (case hg => rfl); (case hr => first | (go_simp; done) | (go_simp; rfl)); (case hp => exact (Reps.one (show Kd.M (Kd.int .u8) _ _ _ ((wrap64 (192 + (wrap64 (Int.tdiv (wrap64 (rd l0 x4_1)) 64)))) % 256) [.int .u8 ((wrap64 (192 + (wrap64 (Int.tdiv (wrap64 (rd l0 x4_1)) 64)))) % 256)] from rfl) (Reps.one (show Kd.M (Kd.int .u8) _ _ _ ((wrap64 (128 + (Int.tmod (wrap64 (rd l0 x4_1)) 64))) % 256) [.int .u8 ((wrap64 (128 + (Int.tmod (wrap64 (rd l0 x4_1)) 64))) % 256)] from rfl) (Reps.none _ _)))); intro v110 w12 ho13 hb hg_ hnew_; clear hg_ hnew_; (first | rw [← Ny109.out] at ho13 | (simp only [Int.reduceToNat] at ho13; rw [← Ny109.out] at ho13)); have HO111 := Am (R_lower (zn ho13 HO_3) (below_size (zB HB)));replace HO_3 := Am (zr HO_3 ho13 hb);replace HB := Am (below_step (zB HB) hb); clear hb ho13; obtain ⟨Ao15, co15, eo15⟩ := R_slice HO111.out; subst eo15) | ((with_reducible refine gate_builtin (b := .append) (xs := #[.tmp 29, .tmp 38]) rfl ?_); at_builtin; refine R_append_rows (Kd.int .u8) (w0 := w) w.heap.size rfl (.tmp 29) (.tmp 38) 98 5 (.int .u8 0) 1 rfl Tryd.underlying98 info5 rfl (by decide) (by omega) u3 x3_1 y109 _ _ _ (fun k_ => some k_ ≠ (.slice Ao15 y109.length co15 : Value).ownBlock) (fun _ => False) rfl rfl ?aO ?aR (fun _ _ h => h) (fun _ h => h.elim) ?aF ?aB ?aS ?aL ?_; (case aR => exact zI (R_reads' HO111.out).2.2); (case aB => exact (zB HB)); (case aF => exact (fun k_ hk => Kd.fresh' (R_lt (zR HO111)) k_ hk)); (case aO => exact (by (with_reducible repeat (first | apply R_alloc | apply R_drewN | apply R_drew)); exact R_mono HO_3.out (fun _ hk => hk.2))); (case aS => exact (below_size (zB HB))); (case aL => have := LMc11.out; omega); intro v113 w14 ho hb hg hat; rw [← Ny112.out] at ho; replace HO111 := Am (R_after (ok := (fun _ => True)) (zR HO111) hg hat);replace HB := Am (hb);have HO114 := Am (ho);clear HO_3; clear ho hb hg hat))
        go_roundg k1
        case measure => have := HK1.out; omega
        case rel => exact ⟨(y112), (wrap64 (x4_1 + 1)), zG, H', ⟨by have := HK1.out; omega⟩, ⟨by (with_reducible repeat (first | apply R_alloc | apply R_drewN | apply R_drew)); exact R_mono HO114.out (fun _ hk => trivial)⟩, ⟨(zB HB)⟩⟩
       ·rw [if_neg c11] at H;exact absurd H (by simp)
      ·rw [if_neg c10] at H;have c10b0 : (t105 == 2) = false := beq_eq_false_iff_ne.mpr c10
       have c10b1 : (t105 != 2) = true := bne_iff_ne.mpr c10
       by_cases c16 : t105 = 3
       ·rw [if_pos c16] at H;have c16b0 : (t105 == 3) = true := beq_iff_eq.mpr c16
        have c16b1 : (t105 != 3) = false := bne_eq_false_iff_eq.mpr c16
        clear c16;obtain ⟨y115, hy115⟩ : ∃ y_ : List Int, y_ = (([(wrap64 (224 + (wrap64 (Int.tdiv (wrap64 (rd l0 x4_1)) 4096)))) % 256, (wrap64 (128 + (Int.tmod (wrap64 (Int.tdiv (wrap64 (rd l0 x4_1)) 64)) 64))) % 256, (wrap64 (128 + (Int.tmod (wrap64 (rd l0 x4_1)) 64))) % 256] : List Int)) := ⟨_, rfl⟩
        replace H : (if x3_1.length + y115.length < 140737488355328 then (epitomeref01_Of.l0 k1 l0 (x3_1 ++ y115) (wrap64 (x4_1 + 1))) else (none)) = some r := by first | (rw [hy115]; with_reducible exact H) | (have H2_ := (Option.bind_some _ _).symm.trans H; rw [hy115]; with_reducible exact H2_) | (have H2_ := (Option.bind_some _ _).symm.trans H; with_reducible exact H2_) | with_reducible exact H | (rw [hy115]; exact H) | exact H
        have Ny115 := Am hy115;clear hy115;by_cases c17 : x3_1.length + y115.length < 140737488355328
        ·rw [if_pos c17] at H;have LMc17 := Am c17;clear c17;obtain ⟨y118, hy118⟩ : ∃ y_ : List Int, y_ = (x3_1 ++ y115) := ⟨_, rfl⟩
         replace H : (epitomeref01_Of.l0 k1 l0 y118 (wrap64 (x4_1 + 1))) = some r := by first | (rw [hy118]; with_reducible exact H) | (have H2_ := (Option.bind_some _ _).symm.trans H; rw [hy118]; with_reducible exact H2_) | (have H2_ := (Option.bind_some _ _).symm.trans H; with_reducible exact H2_) | with_reducible exact H | (rw [hy118]; exact H) | exact H
         have Ny118 := Am hy118;clear hy118;have H' := Am H
         clear H;have p104 : 0 ≤ (x4_1 : Int) := of_decide_eq_true (by assumption)
         have q104 : x4_1 < (l0.length : Int) := of_decide_eq_true (by assumption)
         obtain ⟨ad104, e104, hx104_0⟩ := Kd.at_int HR0.out x4_1 p104 q104
         cases e104
         replace hx104_0 := (HB.out.cell (World.block_lt_of_cell? w _ hx104_0)).trans hx104_0
         replace p104 := eq_true p104;replace q104 := eq_true q104;go_wp2_with (first | ((with_reducible refine gate_callee (f := 81) rfl ?_); refine goesL_ (some 19) rfl rfl Tryd.func81 (by kernel_rfl) rfl #[.int .i64 (wrap64 (rd l0 x4_1))] rfl zE ?_; (with_reducible refine (epitomeref01_size.calls k1 (wrap64 (rd l0 x4_1)) t105 _ A6.out).mono ?_); rintro e w' ⟨rfl, ⟨nd, rfl⟩⟩; refine ⟨_, rfl, ?_⟩) | ((with_reducible refine gate_dst (N := 56) rfl ?_); refine R_lit (Kd.int .u8) _ 5 ?hg (N := 56) ?hd (xs := ([(wrap64 (224 + (wrap64 (Int.tdiv (wrap64 (rd l0 x4_1)) 4096)))) % 256, (wrap64 (128 + (Int.tmod (wrap64 (Int.tdiv (wrap64 (rd l0 x4_1)) 64)) 64))) % 256, (wrap64 (128 + (Int.tmod (wrap64 (rd l0 x4_1)) 64))) % 256] : List Int)) (inner := [.int .u8 ((wrap64 (224 + (wrap64 (Int.tdiv (wrap64 (rd l0 x4_1)) 4096)))) % 256), .int .u8 ((wrap64 (128 + (Int.tmod (wrap64 (Int.tdiv (wrap64 (rd l0 x4_1)) 64)) 64))) % 256), .int .u8 ((wrap64 (128 + (Int.tmod (wrap64 (rd l0 x4_1)) 64))) % 256)]) (ok := fun _ => True) (okp := fun _ => True) ?hr ?hp (fun _ hk => hk) trivial (Below.refl _ _) (Nat.le_refl _) (by simp) ?_; (case hd => rfl); (case hg => rfl); (case hr => first | (go_simp; done) | (go_simp; rfl)); (case hp => exact (Reps.one (show Kd.M (Kd.int .u8) _ _ _ ((wrap64 (224 + (wrap64 (Int.tdiv (wrap64 (rd l0 x4_1)) 4096)))) % 256) [.int .u8 ((wrap64 (224 + (wrap64 (Int.tdiv (wrap64 (rd l0 x4_1)) 4096)))) % 256)] from rfl) (Reps.one (show Kd.M (Kd.int .u8) _ _ _ ((wrap64 (128 + (Int.tmod (wrap64 (Int.tdiv (wrap64 (rd l0 x4_1)) 64)) 64))) % 256) [.int .u8 ((wrap64 (128 + (Int.tmod (wrap64 (Int.tdiv (wrap64 (rd l0 x4_1)) 64)) 64))) % 256)] from rfl) (Reps.one (show Kd.M (Kd.int .u8) _ _ _ ((wrap64 (128 + (Int.tmod (wrap64 (rd l0 x4_1)) 64))) % 256) [.int .u8 ((wrap64 (128 + (Int.tmod (wrap64 (rd l0 x4_1)) 64))) % 256)] from rfl) (Reps.none _ _))))); intro v116 w18 ho19 hb hg_ hnew_; clear hg_ hnew_; (first | rw [← Ny115.out] at ho19 | (simp only [Int.reduceToNat] at ho19; rw [← Ny115.out] at ho19)); have HO117 := Am (R_lower (zn ho19 HO_3) (below_size (zB HB)));replace HO_3 := Am (zr HO_3 ho19 hb);replace HB := Am (below_step (zB HB) hb); clear hb ho19; obtain ⟨Ao21, co21, eo21⟩ := R_slice HO117.out; subst eo21) | ((with_reducible refine gate_builtin (b := .append) (xs := #[.tmp 42, .tmp 56]) rfl ?_); at_builtin; refine R_append_rows (Kd.int .u8) (w0 := w) w.heap.size rfl (.tmp 42) (.tmp 56) 98 5 (.int .u8 0) 1 rfl Tryd.underlying98 info5 rfl (by decide) (by omega) u3 x3_1 y115 _ _ _ (fun k_ => some k_ ≠ (.slice Ao21 y115.length co21 : Value).ownBlock) (fun _ => False) rfl rfl ?aO ?aR (fun _ _ h => h) (fun _ h => h.elim) ?aF ?aB ?aS ?aL ?_; (case aR => exact zI (R_reads' HO117.out).2.2); (case aB => exact (zB HB)); (case aF => exact (fun k_ hk => Kd.fresh' (R_lt (zR HO117)) k_ hk)); (case aO => exact (by (with_reducible repeat (first | apply R_alloc | apply R_drewN | apply R_drew)); exact R_mono HO_3.out (fun _ hk => hk.2))); (case aS => exact (below_size (zB HB))); (case aL => have := LMc17.out; omega); intro v119 w20 ho hb hg hat; rw [← Ny118.out] at ho; replace HO117 := Am (R_after (ok := (fun _ => True)) (zR HO117) hg hat);replace HB := Am (hb);have HO120 := Am (ho);clear HO_3; clear ho hb hg hat))
         go_roundg k1
         case measure => have := HK1.out; omega
         case rel => exact ⟨(y118), (wrap64 (x4_1 + 1)), zG, H', ⟨by have := HK1.out; omega⟩, ⟨by (with_reducible repeat (first | apply R_alloc | apply R_drewN | apply R_drew)); exact R_mono HO120.out (fun _ hk => trivial)⟩, ⟨(zB HB)⟩⟩
        ·rw [if_neg c17] at H;exact absurd H (by simp)
       ·rw [if_neg c16] at H;have c16b0 : (t105 == 3) = false := beq_eq_false_iff_ne.mpr c16
        have c16b1 : (t105 != 3) = true := bne_iff_ne.mpr c16
        by_cases c22 : t105 = 4
        ·rw [if_pos c22] at H;have c22b0 : (t105 == 4) = true := beq_iff_eq.mpr c22
         have c22b1 : (t105 != 4) = false := bne_eq_false_iff_eq.mpr c22
         clear c22;obtain ⟨y121, hy121⟩ : ∃ y_ : List Int, y_ = (([(wrap64 (240 + (wrap64 (Int.tdiv (wrap64 (rd l0 x4_1)) 262144)))) % 256, (wrap64 (128 + (Int.tmod (wrap64 (Int.tdiv (wrap64 (rd l0 x4_1)) 4096)) 64))) % 256, (wrap64 (128 + (Int.tmod (wrap64 (Int.tdiv (wrap64 (rd l0 x4_1)) 64)) 64))) % 256, (wrap64 (128 + (Int.tmod (wrap64 (rd l0 x4_1)) 64))) % 256] : List Int)) := ⟨_, rfl⟩
         replace H : (if x3_1.length + y121.length < 140737488355328 then (epitomeref01_Of.l0 k1 l0 (x3_1 ++ y121) (wrap64 (x4_1 + 1))) else (none)) = some r := by first | (rw [hy121]; with_reducible exact H) | (have H2_ := (Option.bind_some _ _).symm.trans H; rw [hy121]; with_reducible exact H2_) | (have H2_ := (Option.bind_some _ _).symm.trans H; with_reducible exact H2_) | with_reducible exact H | (rw [hy121]; exact H) | exact H
         have Ny121 := Am hy121;clear hy121;by_cases c23 : x3_1.length + y121.length < 140737488355328
         ·rw [if_pos c23] at H;have LMc23 := Am c23;clear c23;obtain ⟨y124, hy124⟩ : ∃ y_ : List Int, y_ = (x3_1 ++ y121) := ⟨_, rfl⟩
          replace H : (epitomeref01_Of.l0 k1 l0 y124 (wrap64 (x4_1 + 1))) = some r := by first | (rw [hy124]; with_reducible exact H) | (have H2_ := (Option.bind_some _ _).symm.trans H; rw [hy124]; with_reducible exact H2_) | (have H2_ := (Option.bind_some _ _).symm.trans H; with_reducible exact H2_) | with_reducible exact H | (rw [hy124]; exact H) | exact H
          have Ny124 := Am hy124;clear hy124;have H' := Am H
          clear H;have p104 : 0 ≤ (x4_1 : Int) := of_decide_eq_true (by assumption)
          have q104 : x4_1 < (l0.length : Int) := of_decide_eq_true (by assumption)
          obtain ⟨ad104, e104, hx104_0⟩ := Kd.at_int HR0.out x4_1 p104 q104
          cases e104
          replace hx104_0 := (HB.out.cell (World.block_lt_of_cell? w _ hx104_0)).trans hx104_0
          replace p104 := eq_true p104;replace q104 := eq_true q104;go_wp2_with (first | ((with_reducible refine gate_callee (f := 81) rfl ?_); refine goesL_ (some 19) rfl rfl Tryd.func81 (by kernel_rfl) rfl #[.int .i64 (wrap64 (rd l0 x4_1))] rfl zE ?_; (with_reducible refine (epitomeref01_size.calls k1 (wrap64 (rd l0 x4_1)) t105 _ A6.out).mono ?_); rintro e w' ⟨rfl, ⟨nd, rfl⟩⟩; refine ⟨_, rfl, ?_⟩) | ((with_reducible refine gate_dst (N := 79) rfl ?_); refine R_lit (Kd.int .u8) _ 5 ?hg (N := 79) ?hd (xs := ([(wrap64 (240 + (wrap64 (Int.tdiv (wrap64 (rd l0 x4_1)) 262144)))) % 256, (wrap64 (128 + (Int.tmod (wrap64 (Int.tdiv (wrap64 (rd l0 x4_1)) 4096)) 64))) % 256, (wrap64 (128 + (Int.tmod (wrap64 (Int.tdiv (wrap64 (rd l0 x4_1)) 64)) 64))) % 256, (wrap64 (128 + (Int.tmod (wrap64 (rd l0 x4_1)) 64))) % 256] : List Int)) (inner := [.int .u8 ((wrap64 (240 + (wrap64 (Int.tdiv (wrap64 (rd l0 x4_1)) 262144)))) % 256), .int .u8 ((wrap64 (128 + (Int.tmod (wrap64 (Int.tdiv (wrap64 (rd l0 x4_1)) 4096)) 64))) % 256), .int .u8 ((wrap64 (128 + (Int.tmod (wrap64 (Int.tdiv (wrap64 (rd l0 x4_1)) 64)) 64))) % 256), .int .u8 ((wrap64 (128 + (Int.tmod (wrap64 (rd l0 x4_1)) 64))) % 256)]) (ok := fun _ => True) (okp := fun _ => True) ?hr ?hp (fun _ hk => hk) trivial (Below.refl _ _) (Nat.le_refl _) (by simp) ?_; (case hd => rfl); (case hg => rfl); (case hr => first | (go_simp; done) | (go_simp; rfl)); (case hp => exact (Reps.one (show Kd.M (Kd.int .u8) _ _ _ ((wrap64 (240 + (wrap64 (Int.tdiv (wrap64 (rd l0 x4_1)) 262144)))) % 256) [.int .u8 ((wrap64 (240 + (wrap64 (Int.tdiv (wrap64 (rd l0 x4_1)) 262144)))) % 256)] from rfl) (Reps.one (show Kd.M (Kd.int .u8) _ _ _ ((wrap64 (128 + (Int.tmod (wrap64 (Int.tdiv (wrap64 (rd l0 x4_1)) 4096)) 64))) % 256) [.int .u8 ((wrap64 (128 + (Int.tmod (wrap64 (Int.tdiv (wrap64 (rd l0 x4_1)) 4096)) 64))) % 256)] from rfl) (Reps.one (show Kd.M (Kd.int .u8) _ _ _ ((wrap64 (128 + (Int.tmod (wrap64 (Int.tdiv (wrap64 (rd l0 x4_1)) 64)) 64))) % 256) [.int .u8 ((wrap64 (128 + (Int.tmod (wrap64 (Int.tdiv (wrap64 (rd l0 x4_1)) 64)) 64))) % 256)] from rfl) (Reps.one (show Kd.M (Kd.int .u8) _ _ _ ((wrap64 (128 + (Int.tmod (wrap64 (rd l0 x4_1)) 64))) % 256) [.int .u8 ((wrap64 (128 + (Int.tmod (wrap64 (rd l0 x4_1)) 64))) % 256)] from rfl) (Reps.none _ _)))))); intro v122 w24 ho25 hb hg_ hnew_; clear hg_ hnew_; (first | rw [← Ny121.out] at ho25 | (simp only [Int.reduceToNat] at ho25; rw [← Ny121.out] at ho25)); have HO123 := Am (R_lower (zn ho25 HO_3) (below_size (zB HB)));replace HO_3 := Am (zr HO_3 ho25 hb);replace HB := Am (below_step (zB HB) hb); clear hb ho25; obtain ⟨Ao27, co27, eo27⟩ := R_slice HO123.out; subst eo27) | ((with_reducible refine gate_builtin (b := .append) (xs := #[.tmp 60, .tmp 79]) rfl ?_); at_builtin; refine R_append_rows (Kd.int .u8) (w0 := w) w.heap.size rfl (.tmp 60) (.tmp 79) 98 5 (.int .u8 0) 1 rfl Tryd.underlying98 info5 rfl (by decide) (by omega) u3 x3_1 y121 _ _ _ (fun k_ => some k_ ≠ (.slice Ao27 y121.length co27 : Value).ownBlock) (fun _ => False) rfl rfl ?aO ?aR (fun _ _ h => h) (fun _ h => h.elim) ?aF ?aB ?aS ?aL ?_; (case aR => exact zI (R_reads' HO123.out).2.2); (case aB => exact (zB HB)); (case aF => exact (fun k_ hk => Kd.fresh' (R_lt (zR HO123)) k_ hk)); (case aO => exact (by (with_reducible repeat (first | apply R_alloc | apply R_drewN | apply R_drew)); exact R_mono HO_3.out (fun _ hk => hk.2))); (case aS => exact (below_size (zB HB))); (case aL => have := LMc23.out; omega); intro v125 w26 ho hb hg hat; rw [← Ny124.out] at ho; replace HO123 := Am (R_after (ok := (fun _ => True)) (zR HO123) hg hat);replace HB := Am (hb);have HO126 := Am (ho);clear HO_3; clear ho hb hg hat))
          go_roundg k1
          case measure => have := HK1.out; omega
          case rel => exact ⟨(y124), (wrap64 (x4_1 + 1)), zG, H', ⟨by have := HK1.out; omega⟩, ⟨by (with_reducible repeat (first | apply R_alloc | apply R_drewN | apply R_drew)); exact R_mono HO126.out (fun _ hk => trivial)⟩, ⟨(zB HB)⟩⟩
         ·rw [if_neg c23] at H;exact absurd H (by simp)
        ·rw [if_neg c22] at H;have c22b0 : (t105 == 4) = false := beq_eq_false_iff_ne.mpr c22
         have c22b1 : (t105 != 4) = true := bne_iff_ne.mpr c22
         have H' := Am H
         clear H;have p104 : 0 ≤ (x4_1 : Int) := of_decide_eq_true (by assumption)
         have q104 : x4_1 < (l0.length : Int) := of_decide_eq_true (by assumption)
         obtain ⟨ad104, e104, hx104_0⟩ := Kd.at_int HR0.out x4_1 p104 q104
         cases e104
         replace hx104_0 := (HB.out.cell (World.block_lt_of_cell? w _ hx104_0)).trans hx104_0
         replace p104 := eq_true p104;replace q104 := eq_true q104;go_wp2_with (first | ((with_reducible refine gate_callee (f := 81) rfl ?_); refine goesL_ (some 19) rfl rfl Tryd.func81 (by kernel_rfl) rfl #[.int .i64 (wrap64 (rd l0 x4_1))] rfl zE ?_; (with_reducible refine (epitomeref01_size.calls k1 (wrap64 (rd l0 x4_1)) t105 _ A6.out).mono ?_); rintro e w' ⟨rfl, ⟨nd, rfl⟩⟩; refine ⟨_, rfl, ?_⟩))
         go_roundg k1
         case measure => have := HK1.out; omega
         case rel => exact ⟨(x3_1), (wrap64 (x4_1 + 1)), zG, H', ⟨by have := HK1.out; omega⟩, ⟨(zR HO_3)⟩, ⟨(zB HB)⟩⟩
    ·rw [if_neg c5] at H;exact absurd H (by simp)
   ·rw [if_neg c4] at H;have c4b0 : decide (x4_1 < (l0.length : Int)) = false := decide_eq_false c4
    clear c4;obtain rfl := Option.some.inj H;have hcv28 := own_string (P := Tryd.prog) Tryd.underlying98 Tryd.underlying5 Tryd.underlying9 (Kd.own_of_R HO_3.out)
    go_wp2
    go_ret
    exact ⟨zF, (zB HB)⟩
end Go.Proofs.YtkefbljogjcodaaDoor.F
end
section
namespace Go.Proofs.YtkefbljogjcodaaDoor.F
open Go.RowKit Go.Proofs.YtkefbljogjcodaaDoorW.PrintWords Go.Proofs.YtkefbljogjcodaaDoorW.PrintLast Go.Proofs.YtkefbljogjcodaaDoorW.PrintMore
attribute [local go_sem] max2_int min2_int max_two min_two max_three min_three max_four min_four cell_setCell_isSome
set_option linter.unusedVariables false
set_option linter.unusedSimpArgs false
open Kd
def epitomeref01_Fit.l0 : Nat → ByteArray → List Int → Int → Int → Int → Int → Int → Int → Int → Int → Int → Option (ByteArray)
  | 0, _, _, _, _, _, _, _, _, _, _, _ => none
  | k + 1, x0, x4, x5, x102000, x102001, x102002, x102003, x102004, x102005, x102006, x102007 => if x5 < (x0.size : Int) then (if 0 ≤ x5 then ((fit_rune.f x102000 x102001 x102002 x102003 x102004 x102005 x102006 x102007 (Int.tmod (bt x0 x5) 8)).bind fun t105 => (if x4.length < 35184372088832 then (epitomeref01_Fit.l0 k x0 (x4 ++ [t105]) (wrap64 (x5 + 1)) x102000 x102001 x102002 x102003 x102004 x102005 x102006 x102007) else (none))) else (none)) else ((epitomeref01_Of.f k x4).bind fun t109 => (some t109))
def epitomeref01_Fit.f (k : Nat) (a0 : ByteArray) : Option (ByteArray) := epitomeref01_Fit.l0 k a0 (([] : List Int)) 0 97 98 99 120 121 233 8364 128512
set_option maxHeartbeats 40000000 in
set_option maxRecDepth 100000 in
theorem epitomeref01_Fit.calls (k : Nat) (a0 : ByteArray) (r : ByteArray) (w : World) (h : epitomeref01_Fit.f k a0 = some r) :
  Calls Tryd.prog 14 #[.string a0] w fun e w' => e = .returned (.string r) ∧ Below w.heap.size w w' := by
 have hu62 := Tryd.underlying62
 have HB := Am (Below.refl w.heap.size w)
 have H : (epitomeref01_Fit.l0 k a0 (([] : List Int)) 0 97 98 99 120 121 233 8364 128512) = some r := h
 clear h;obtain ⟨y102, hy102⟩ : ∃ y_ : List Int, y_ = (([] : List Int)) := ⟨_, rfl⟩
 replace H : (epitomeref01_Fit.l0 k a0 y102 0 97 98 99 120 121 233 8364 128512) = some r := by first | (rw [hy102]; with_reducible exact H) | (have H2_ := (Option.bind_some _ _).symm.trans H; rw [hy102]; with_reducible exact H2_) | (have H2_ := (Option.bind_some _ _).symm.trans H; with_reducible exact H2_) | with_reducible exact H | (rw [hy102]; exact H) | exact H
 have Ny102 := Am hy102;clear hy102;have H' := Am H
 clear H;go_enter Tryd.func14, Tryd.ntmps14
 go_wp2_with (first | ((with_reducible refine gate_dst (N := 3) rfl ?_); refine box_event ?hg (N := 3) ?hd (cs := #[.int .i32 0, .int .i32 0, .int .i32 0, .int .i32 0, .int .i32 0, .int .i32 0, .int .i32 0, .int .i32 0]) (t := 62) ?hr ?_; (case hd => rfl); (case hg => rfl); (case hr => first | (go_simp; done) | (go_simp; rfl)); intro gb101 hg w2 hbox hb; have BK101 := Am (hbox);have GW101 := Am (zO (w := w) HB hg);have GE101 := Am (zO (w := w) HB hg);replace HB := Am (below_step (zB HB) hb); clear hb hbox hg; have hcz3_0 : w2.cell? ⟨gb101, 0, none⟩ = some (.int .i32 0) := (blk_cell BK101.out 0).trans rfl; have hcz3_1 : w2.cell? ⟨gb101, 1, none⟩ = some (.int .i32 0) := (blk_cell BK101.out 1).trans rfl; have hcz3_2 : w2.cell? ⟨gb101, 2, none⟩ = some (.int .i32 0) := (blk_cell BK101.out 2).trans rfl; have hcz3_3 : w2.cell? ⟨gb101, 3, none⟩ = some (.int .i32 0) := (blk_cell BK101.out 3).trans rfl; have hcz3_4 : w2.cell? ⟨gb101, 4, none⟩ = some (.int .i32 0) := (blk_cell BK101.out 4).trans rfl; have hcz3_5 : w2.cell? ⟨gb101, 5, none⟩ = some (.int .i32 0) := (blk_cell BK101.out 5).trans rfl; have hcz3_6 : w2.cell? ⟨gb101, 6, none⟩ = some (.int .i32 0) := (blk_cell BK101.out 6).trans rfl; have hcz3_7 : w2.cell? ⟨gb101, 7, none⟩ = some (.int .i32 0) := (blk_cell BK101.out 7).trans rfl; have hfz3_0 := blk_frozen BK101.out 0; have hfz3_1 := blk_frozen BK101.out 1; have hfz3_2 := blk_frozen BK101.out 2; have hfz3_3 := blk_frozen BK101.out 3; have hfz3_4 := blk_frozen BK101.out 4; have hfz3_5 := blk_frozen BK101.out 5; have hfz3_6 := blk_frozen BK101.out 6; have hfz3_7 := blk_frozen BK101.out 7) | ((with_reducible refine gate_dst (N := 7) rfl ?_); refine R_lit (Kd.int .i32) _ 21 ?hg (N := 7) ?hd (xs := ([] : List Int)) (inner := []) (ok := fun _ => True) (okp := fun _ => True) ?hr ?hp (fun _ hk => hk) trivial (Below.refl _ _) (Nat.le_refl _) (by simp) ?_; (case hd => rfl); (case hg => rfl); (case hr => first | (go_simp; done) | (go_simp; rfl)); (case hp => exact (Reps.none _ _)); intro v103 w4 ho5 hb hg_ hnew_; clear hg_ hnew_; (first | rw [← Ny102.out] at ho5 | (simp only [Int.reduceToNat] at ho5; rw [← Ny102.out] at ho5)); have HO104 := Am (R_lower ho5 (below_size (zB HB)));replace BK101 := Am (blk_below (g := gb101) (o := .cells #[.int .i32 97, .int .i32 98, .int .i32 99, .int .i32 120, .int .i32 121, .int .i32 233, .int .i32 8364, .int .i32 128512] 62 (0, 0)) (zP BK101) hb);replace HB := Am (below_step (zB HB) hb); clear hb ho5))
 go_loopg [4, 5] k (fun kq v4 v5 w' => ∃ (x4_1 : List Int) (x5_1 : Int), v5 = .int .i64 x5_1 ∧ Aside0 (epitomeref01_Fit.l0 kq a0 x4_1 x5_1 97 98 99 120 121 233 8364 128512 = some r) ∧ Aside0 (kq ≤ k) ∧ Aside0 (Kd.R (Kd.int .i32) 21 w' w.heap.size (fun _ => True) v4 x4_1) ∧ Aside0 (w'.heap[gb101]? = some (.cells #[.int .i32 97, .int .i32 98, .int .i32 99, .int .i32 120, .int .i32 121, .int .i32 233, .int .i32 8364, .int .i32 128512] 62 (0, 0))) ∧ Aside0 (Below w.heap.size w w'))
 case atStart => exact ⟨(y102), (0), zG, H', ⟨Nat.le_refl _⟩, ⟨(zR HO104)⟩, ⟨(zK BK101)⟩, ⟨(zB HB)⟩⟩
 case round =>
  clear H';(try clear c1);(try clear p2);(try clear hcz3_0);(try clear hcz3_1);(try clear hcz3_2);(try clear hcz3_3);(try clear hcz3_4);(try clear hcz3_5);(try clear hcz3_6);(try clear hcz3_7);(try clear hfz3_0);(try clear hfz3_1);(try clear hfz3_2);(try clear hfz3_3);(try clear hfz3_4);(try clear hfz3_5);(try clear hfz3_6);(try clear hfz3_7);obtain ⟨x4_1, x5_1, rfl, HA, HK1, HO_4, BK101, HB⟩ := hrel
  cases gk with
  | zero => exact absurd HA.out (by simp [epitomeref01_Fit.l0])
  | succ k1 =>
   have H := HA.out;clear HA;simp only [epitomeref01_Fit.l0] at H
   by_cases c6 : x5_1 < (a0.size : Int)
   ·rw [if_pos c6] at H;have c6b0 : decide (x5_1 < (a0.size : Int)) = true := decide_eq_true c6
    clear c6;by_cases c7 : 0 ≤ x5_1
    ·rw [if_pos c7] at H;have c7b0 : decide (0 ≤ x5_1) = true := decide_eq_true c7
     clear c7;replace H := Option.bind_eq_some_iff.mp H;obtain ⟨t105, A90, H⟩ := H;have A9 := Am A90;clear A90;by_cases c10 : x4_1.length < 35184372088832
     ·rw [if_pos c10] at H;have LMc10 := Am c10;clear c10;obtain ⟨y106, hy106⟩ : ∃ y_ : List Int, y_ = (x4_1 ++ [t105]) := ⟨_, rfl⟩
      replace H : (epitomeref01_Fit.l0 k1 a0 y106 (wrap64 (x5_1 + 1)) 97 98 99 120 121 233 8364 128512) = some r := by first | (rw [hy106]; with_reducible exact H) | (have H2_ := (Option.bind_some _ _).symm.trans H; rw [hy106]; with_reducible exact H2_) | (have H2_ := (Option.bind_some _ _).symm.trans H; with_reducible exact H2_) | with_reducible exact H | (rw [hy106]; exact H) | exact H
      have Ny106 := Am hy106;clear hy106;have H' := Am H
      clear H;have p8 : 0 ≤ (x5_1 : Int) := of_decide_eq_true (by assumption)
      have q8 : x5_1 < (a0.size : Int) := of_decide_eq_true (by assumption)
      have hx8 := bt_at a0 x5_1
      replace p8 := eq_true p8;replace q8 := eq_true q8;have hcz11_0 : wr.cell? ⟨gb101, 0, none⟩ = some (.int .i32 97) := (blk_cell BK101.out 0).trans rfl
      have hcz11_1 : wr.cell? ⟨gb101, 1, none⟩ = some (.int .i32 98) := (blk_cell BK101.out 1).trans rfl
      have hcz11_2 : wr.cell? ⟨gb101, 2, none⟩ = some (.int .i32 99) := (blk_cell BK101.out 2).trans rfl
      have hcz11_3 : wr.cell? ⟨gb101, 3, none⟩ = some (.int .i32 120) := (blk_cell BK101.out 3).trans rfl
      have hcz11_4 : wr.cell? ⟨gb101, 4, none⟩ = some (.int .i32 121) := (blk_cell BK101.out 4).trans rfl
      have hcz11_5 : wr.cell? ⟨gb101, 5, none⟩ = some (.int .i32 233) := (blk_cell BK101.out 5).trans rfl
      have hcz11_6 : wr.cell? ⟨gb101, 6, none⟩ = some (.int .i32 8364) := (blk_cell BK101.out 6).trans rfl
      have hcz11_7 : wr.cell? ⟨gb101, 7, none⟩ = some (.int .i32 128512) := (blk_cell BK101.out 7).trans rfl
      have hfz11_0 := blk_frozen BK101.out 0;have hfz11_1 := blk_frozen BK101.out 1;have hfz11_2 := blk_frozen BK101.out 2;have hfz11_3 := blk_frozen BK101.out 3;have hfz11_4 := blk_frozen BK101.out 4;have hfz11_5 := blk_frozen BK101.out 5;have hfz11_6 := blk_frozen BK101.out 6;have hfz11_7 := blk_frozen BK101.out 7;have f8b := rem8 (bt a0 x5_1) (bt_nonneg _ _)
      have f8c := fit_cell BK101.out A9.out
      have f8p := eq_true f8b.1
      have f8q := eq_true f8b.2
      have huA := Tryd.underlying62
      clear f8b;go_wp2_with (first | ((with_reducible refine gate_builtin (b := .append) (xs := #[.tmp 14, .tmp 21]) rfl ?_); at_builtin; refine R_append (Kd.int .i32) (w0 := w) w.heap.size rfl (.tmp 14) (.tmp 21) 63 21 (.int .i32 0) 4 rfl Tryd.underlying63 info21 rfl (by decide) (by omega) u4 x4_1 t105 [.int .i32 t105] (fun _ => True) (fun _ => False) rfl rfl ?aP (fun _ hk => hk.elim) ?aF ?aO ?aB ?aS ?aL ?_; (case aP => exact rfl); (case aB => exact (zB HB)); (case aF => exact (fun _ _ => trivial)); (case aO => exact (zR HO_4)); (case aS => exact (below_size (zB HB))); (case aL => have := LMc10.out; omega); intro v107 w13 ho hb hg hat; rw [← Ny106.out] at ho; replace BK101 := Am (zW BK101 hg (R_ne HO_4.out BK101.out (by decide)));replace HB := Am (hb);have HO108 := Am (ho);clear HO_4; clear ho hb hg hat))
      go_roundg k1
      case measure => have := HK1.out; omega
      case rel => exact ⟨(y106), (wrap64 (x5_1 + 1)), zG, H', ⟨by have := HK1.out; omega⟩, ⟨(zR HO108)⟩, ⟨(zK BK101)⟩, ⟨(zB HB)⟩⟩
     ·rw [if_neg c10] at H;exact absurd H (by simp)
    ·rw [if_neg c7] at H;exact absurd H (by simp)
   ·rw [if_neg c6] at H;have c6b0 : decide (x5_1 < (a0.size : Int)) = false := decide_eq_false c6
    clear c6;replace H := Option.bind_eq_some_iff.mp H;obtain ⟨t109, A140, H⟩ := H;replace H : (some t109) = some r := H
    have A14 := Am A140;clear A140;obtain rfl := Option.some.inj H;obtain ⟨Ao15, co15, eo15⟩ := R_slice HO_4.out
    subst eo15
    go_wp2_with (first | ((with_reducible refine gate_callee (f := 46) rfl ?_); refine goesL_ (some 24) rfl rfl Tryd.func46 (by kernel_rfl) rfl #[.slice Ao15 x4_1.length co15] rfl zE ?_; (with_reducible refine (epitomeref01_Of.calls k1 _ _ x4_1 t109 _ ?side1 ?side2 A14.out).mono ?_); (case side1 => exact zI (R_reads' HO_4.out).2.2); (case side2 => exact (R_reads' HO_4.out).2.1); rintro e w16 ⟨rfl, hb⟩; refine ⟨_, rfl, ?_⟩; replace HO_4 := Am (R_below (zR HO_4) hb);replace BK101 := Am (zU BK101 hb);replace HB := Am (below_step (zB HB) hb); (try clear hb)))
    go_ret
    exact ⟨zF, (zB HB)⟩
end Go.Proofs.YtkefbljogjcodaaDoor.F
end
section
namespace Go.Proofs.YtkefbljogjcodaaDoor.F
open Go.RowKit Go.Proofs.YtkefbljogjcodaaDoorW.PrintWords Go.Proofs.YtkefbljogjcodaaDoorW.PrintLast Go.Proofs.YtkefbljogjcodaaDoorW.PrintMore
attribute [local go_sem] max2_int min2_int max_two min_two max_three min_three max_four min_four cell_setCell_isSome
set_option linter.unusedVariables false
set_option linter.unusedSimpArgs false
open Kd
mutual
def epitomeref04_Fit.l0 : Nat → List (S26) → Int → List (S26) → Int → Option ((List (S26)))
  | 0, _, _, _, _ => none
  | k + 1, x0, x1, x5, x6 => if x6 < (x0.length : Int) then (epitomeref04_Fit.j1 k x0 x1 x5 x6 (decide (x6 < 12))) else (epitomeref04_Fit.j1 k x0 x1 x5 x6 false)
def epitomeref04_Fit.j1 : Nat → List (S26) → Int → List (S26) → Int → Bool → Option ((List (S26)))
  | 0, _, _, _, _, _ => none
  | k + 1, x0, x1, x5, x6, x16 => if x16 = true then (if 0 ≤ x6 then (if x6 < (x0.length : Int) then (if (wrap64 (1 + (Int.tmod (wrap64 ((Int.tmod ((rd_T26 x0 x6).f0) 3) + 3)) 3))) = 2 then (if 0 ≤ (mn (((rd_T26 x0 x6).f2).size : Int) 6) then (if (mn (((rd_T26 x0 x6).f2).size : Int) 6) ≤ (((rd_T26 x0 x6).f2).size : Int) then ((epitomeref01_Fit.f k (((rd_T26 x0 x6).f2).extract 0 ((mn (((rd_T26 x0 x6).f2).size : Int) 6) : Int).toNat)).bind fun t108 => (if x5.length < 4398046511104 then (epitomeref04_Fit.l0 k x0 x1 (x5 ++ [(⟨wrap64 (1 + (Int.tmod (wrap64 ((Int.tmod ((rd_T26 x0 x6).f0) 3) + 3)) 3)), 0, t108⟩ : S26)]) (wrap64 (x6 + 1))) else (none))) else (none)) else (none)) else (if x5.length < 4398046511104 then (epitomeref04_Fit.l0 k x0 (wrap64 (x1 - (mn (Int.tmod (wrap64 ((Int.tmod ((rd_T26 x0 x6).f1) 7) + 7)) 7) x1))) (x5 ++ [(⟨wrap64 (1 + (Int.tmod (wrap64 ((Int.tmod ((rd_T26 x0 x6).f0) 3) + 3)) 3)), mn (Int.tmod (wrap64 ((Int.tmod ((rd_T26 x0 x6).f1) 7) + 7)) 7) x1, (⟨#[]⟩ : ByteArray)⟩ : S26)]) (wrap64 (x6 + 1))) else (none))) else (none)) else (none)) else (if x1 > 0 then (if x5.length < 4398046511104 then (some (x5 ++ [(⟨1, x1, (⟨#[]⟩ : ByteArray)⟩ : S26)])) else (none)) else (some x5))
end
def epitomeref04_Fit.f (k : Nat) (l0 : List (S26)) (a1 : Int) : Option ((List (S26))) := epitomeref04_Fit.l0 k l0 a1 (([] : List (S26))) 0
def epitomeref04_Fit.T7 : Bool × List (List Nat × List Nat) := (true, [([], []), ([], []), ([0, 1], [0, 1]), ([2], [2]), ([3], [3]), ([], []), ([], []), ([5, 6], [5, 6]), ([7], [7]), ([8], [8]), ([9], [9]), ([10], [10]), ([4, 11], [4, 11]), ([12], [12]), ([0, 1, 2, 3, 4, 5, 6, 7, 8, 9, 10, 11, 12, 13], []), ([14, 13, 13, 0, 1, 2, 3, 4, 5, 6, 7, 8, 9, 10, 11, 12, 13], [13, 14])])
def epitomeref04_Fit.B7 : List Nat := [0, 0, 3, 7, 15, 0, 0, 96, 224, 480, 992, 2016, 4095, 8191, 16383, 32767]
theorem epitomeref04_Fit.tab7 : rtab .any (opsOf Tryd.f20 7) = epitomeref04_Fit.T7 := by kernel_rfl
theorem epitomeref04_Fit.bits7 : waitsOk epitomeref04_Fit.T7.2 epitomeref04_Fit.B7 = true := by kernel_rfl
set_option maxHeartbeats 40000000 in
set_option maxRecDepth 100000 in
theorem epitomeref04_Fit.calls (k : Nat) (A0 : Option Addr) (c0 : Nat) (l0 : List (S26)) (a1 : Int) (r : List (S26)) (w : World) (hr0 : Kd.C k26 w A0 l0.length l0) (hc0 : l0.length ≤ c0) (h : epitomeref04_Fit.f k l0 a1 = some r) :
  Calls Tryd.prog 20 #[.slice A0 l0.length c0, .int .i64 a1] w fun e w' => ∃ v0_ : Value, e = .returned (v0_) ∧ Kd.R k26 26 w' w.heap.size (fun _ => True) v0_ r ∧ Below w.heap.size w w' := by
 have hu26 := Tryd.underlying26
 have HR0 := Am hr0;have HC0 := Am hc0;clear hr0 hc0;have HB := Am (Below.refl w.heap.size w)
 have H : (epitomeref04_Fit.l0 k l0 a1 (([] : List (S26))) 0) = some r := h
 clear h;obtain ⟨y101, hy101⟩ : ∃ y_ : List (S26), y_ = (([] : List (S26))) := ⟨_, rfl⟩
 replace H : (epitomeref04_Fit.l0 k l0 a1 y101 0) = some r := by first | (rw [hy101]; with_reducible exact H) | (have H2_ := (Option.bind_some _ _).symm.trans H; rw [hy101]; with_reducible exact H2_) | (have H2_ := (Option.bind_some _ _).symm.trans H; with_reducible exact H2_) | with_reducible exact H | (rw [hy101]; exact H) | exact H
 have Ny101 := Am hy101;clear hy101;have H' := Am H
 clear H;go_enter Tryd.func20, Tryd.ntmps20
 go_wp2_with (first | ((with_reducible refine gate_dst (N := 8) rfl ?_); refine R_lit k26 _ 26 ?hg (N := 8) ?hd (xs := ([] : List (S26))) (inner := []) (ok := fun _ => True) (okp := fun _ => True) ?hr ?hp (fun _ hk => hk) trivial (Below.refl _ _) (Nat.le_refl _) (by simp) ?_; (case hd => rfl); (case hg => rfl); (case hr => first | (go_simp; done) | (go_simp; rfl)); (case hp => exact (Reps.none _ _)); intro v102 w3 ho4 hb hg_ hnew_; clear hg_ hnew_; (first | rw [← Ny101.out] at ho4 | (simp only [Int.reduceToNat] at ho4; rw [← Ny101.out] at ho4)); have HO103 := Am (R_lower ho4 (below_size (zB HB)));replace HB := Am (below_step (zB HB) hb); clear hb ho4))
 go_loopg [1, 5, 6] k (fun kq v1 v5 v6 w' => ∃ (x1_1 : Int) (x5_1 : List (S26)) (x6_1 : Int), v1 = .int .i64 x1_1 ∧ v6 = .int .i64 x6_1 ∧ Aside0 (epitomeref04_Fit.l0 kq l0 x1_1 x5_1 x6_1 = some r) ∧ Aside0 (kq ≤ k) ∧ Aside0 (Kd.R k26 26 w' w.heap.size (fun _ => True) v5 x5_1) ∧ Aside0 (Below w.heap.size w w'))
 case atStart => exact ⟨(a1), (y101), (0), zG, zG, H', ⟨Nat.le_refl _⟩, ⟨(zR HO103)⟩, ⟨(zB HB)⟩⟩
 case round =>
  clear H';(try clear c2);(try clear p2);obtain ⟨x1_1, x5_1, x6_1, rfl, rfl, HA, HK1, HO_5, HB⟩ := hrel
  cases gk with
  | zero => exact absurd HA.out (by simp [epitomeref04_Fit.l0])
  | succ k1 =>
   have H := HA.out;clear HA;simp only [epitomeref04_Fit.l0] at H
   have HC5 := Am H;clear H;go_upto_region 3 with (fail)
   go_cut [16] (fun v16 wc => ∃ (kq : Nat) (x16_4 : Bool), v16 = .bool x16_4 ∧ Aside0 (epitomeref04_Fit.j1 kq l0 x1_1 x5_1 x6_1 x16_4 = some r) ∧ Aside0 (kq ≤ k1) ∧ Aside0 (Kd.R k26 26 wc w.heap.size (fun _ => True) u5 x5_1) ∧ Aside0 (Below w.heap.size w wc))
   case first =>
    have H := HC5.out;clear HC5;by_cases c6 : x6_1 < (l0.length : Int)
    ·rw [if_pos c6] at H;have c6b0 : decide (x6_1 < (l0.length : Int)) = true := decide_eq_true c6
     clear c6;(first | rw [c6b0] | (simp only [i64_w, i32_w]; rw [c6b0]) | skip)
     have H' := Am H
     clear H;go_wp2
     go_meet
     case rel => exact ⟨_, (decide (x6_1 < 12)), zG, H', ⟨by have := HK1.out; first | omega | exact Nat.le_refl _⟩, ⟨(zR HO_5)⟩, ⟨(zB HB)⟩⟩
    ·rw [if_neg c6] at H;have c6b0 : decide (x6_1 < (l0.length : Int)) = false := decide_eq_false c6
     clear c6;(first | rw [c6b0] | (simp only [i64_w, i32_w]; rw [c6b0]) | skip)
     have H' := Am H
     clear H;go_wp2
     go_meet
     case rel => exact ⟨_, (false), zG, H', ⟨by have := HK1.out; first | omega | exact Nat.le_refl _⟩, ⟨(zR HO_5)⟩, ⟨(zB HB)⟩⟩
   case rest =>
    clear HC5;(try clear c2);(try clear p2);(try clear c6);(try clear c6b0);(try clear p2);obtain ⟨kq, x16_4, rfl, HA, HJ4, HO_5, HB⟩ := hcut
    cases kq with
    | zero => exact absurd HA.out (by simp [epitomeref04_Fit.j1])
    | succ kj4 =>
     have H := HA.out;clear HA;simp only [epitomeref04_Fit.j1] at H
     by_cases c7 : x16_4 = true
     ·subst c7
      have H1 : (if 0 ≤ x6_1 then (if x6_1 < (l0.length : Int) then (if (wrap64 (1 + (Int.tmod (wrap64 ((Int.tmod ((rd_T26 l0 x6_1).f0) 3) + 3)) 3))) = 2 then (if 0 ≤ (mn (((rd_T26 l0 x6_1).f2).size : Int) 6) then (if (mn (((rd_T26 l0 x6_1).f2).size : Int) 6) ≤ (((rd_T26 l0 x6_1).f2).size : Int) then ((epitomeref01_Fit.f kj4 (((rd_T26 l0 x6_1).f2).extract 0 ((mn (((rd_T26 l0 x6_1).f2).size : Int) 6) : Int).toNat)).bind fun t108 => (if x5_1.length < 4398046511104 then (epitomeref04_Fit.l0 kj4 l0 x1_1 (x5_1 ++ [(⟨wrap64 (1 + (Int.tmod (wrap64 ((Int.tmod ((rd_T26 l0 x6_1).f0) 3) + 3)) 3)), 0, t108⟩ : S26)]) (wrap64 (x6_1 + 1))) else (none))) else (none)) else (none)) else (if x5_1.length < 4398046511104 then (epitomeref04_Fit.l0 kj4 l0 (wrap64 (x1_1 - (mn (Int.tmod (wrap64 ((Int.tmod ((rd_T26 l0 x6_1).f1) 7) + 7)) 7) x1_1))) (x5_1 ++ [(⟨wrap64 (1 + (Int.tmod (wrap64 ((Int.tmod ((rd_T26 l0 x6_1).f0) 3) + 3)) 3)), mn (Int.tmod (wrap64 ((Int.tmod ((rd_T26 l0 x6_1).f1) 7) + 7)) 7) x1_1, (⟨#[]⟩ : ByteArray)⟩ : S26)]) (wrap64 (x6_1 + 1))) else (none))) else (none)) else (none)) = some r := by rw [if_pos rfl] at H; exact H
      clear H;have H := H1
      clear H1;by_cases c8 : 0 ≤ x6_1
      ·rw [if_pos c8] at H;have c8b0 : decide (0 ≤ x6_1) = true := decide_eq_true c8
       clear c8;by_cases c9 : x6_1 < (l0.length : Int)
       ·rw [if_pos c9] at H;have c9b0 : decide (x6_1 < (l0.length : Int)) = true := decide_eq_true c9
        clear c9;by_cases c10 : (wrap64 (1 + (Int.tmod (wrap64 ((Int.tmod ((rd_T26 l0 x6_1).f0) 3) + 3)) 3))) = 2
        ·rw [if_pos c10] at H;have c10b0 : ((wrap64 (1 + (Int.tmod (wrap64 ((Int.tmod ((rd_T26 l0 x6_1).f0) 3) + 3)) 3))) == 2) = true := beq_iff_eq.mpr c10
         have c10b1 : ((wrap64 (1 + (Int.tmod (wrap64 ((Int.tmod ((rd_T26 l0 x6_1).f0) 3) + 3)) 3))) != 2) = false := bne_eq_false_iff_eq.mpr c10
         clear c10;obtain ⟨ji11, hji11⟩ : ∃ j_ : Int, (mn (((rd_T26 l0 x6_1).f2).size : Int) 6) = j_ := ⟨_, rfl⟩
         replace H : (if 0 ≤ (ji11) then (if (ji11) ≤ (((rd_T26 l0 x6_1).f2).size : Int) then ((epitomeref01_Fit.f kj4 (((rd_T26 l0 x6_1).f2).extract 0 ((ji11) : Int).toNat)).bind fun t108 => (if x5_1.length < 4398046511104 then (epitomeref04_Fit.l0 kj4 l0 x1_1 (x5_1 ++ [(⟨wrap64 (1 + (Int.tmod (wrap64 ((Int.tmod ((rd_T26 l0 x6_1).f0) 3) + 3)) 3)), 0, t108⟩ : S26)]) (wrap64 (x6_1 + 1))) else (none))) else (none)) else (none)) = some r := by first | (rw [hji11] at H; exact H) | (simp only [hji11] at H ⊢; exact H)
         have hji11_ : (if 6 < (((rd_T26 l0 x6_1).f2).size : Int) then 6 else (((rd_T26 l0 x6_1).f2).size : Int)) = ji11 := hji11
         by_cases c12 : 0 ≤ (ji11)
         ·rw [if_pos c12] at H;have c12b0 := eq_true c12
          have c12b1 : decide (0 ≤ (ji11)) = true := decide_eq_true c12
          clear c12;by_cases c13 : (ji11) ≤ (((rd_T26 l0 x6_1).f2).size : Int)
          ·rw [if_pos c13] at H;have c13b0 := eq_true c13
           have c13b1 : decide ((ji11) ≤ (((rd_T26 l0 x6_1).f2).size : Int)) = true := decide_eq_true c13
           clear c13;replace H := Option.bind_eq_some_iff.mp H;obtain ⟨t108, A140, H⟩ := H;have A14 := Am A140;clear A140;by_cases c15 : x5_1.length < 4398046511104
           ·rw [if_pos c15] at H;have LMc15 := Am c15;clear c15;obtain ⟨y109, hy109⟩ : ∃ y_ : List (S26), y_ = (x5_1 ++ [(⟨wrap64 (1 + (Int.tmod (wrap64 ((Int.tmod ((rd_T26 l0 x6_1).f0) 3) + 3)) 3)), 0, t108⟩ : S26)]) := ⟨_, rfl⟩
            replace H : (epitomeref04_Fit.l0 kj4 l0 x1_1 y109 (wrap64 (x6_1 + 1))) = some r := by first | (rw [hy109]; with_reducible exact H) | (have H2_ := (Option.bind_some _ _).symm.trans H; rw [hy109]; with_reducible exact H2_) | (have H2_ := (Option.bind_some _ _).symm.trans H; with_reducible exact H2_) | with_reducible exact H | (rw [hy109]; exact H) | exact H
            have Ny109 := Am hy109;clear hy109;have H' := Am H
            clear H;have p104 : 0 ≤ (x6_1 : Int) := of_decide_eq_true (by assumption)
            have q104 : x6_1 < (l0.length : Int) := of_decide_eq_true (by assumption)
            obtain ⟨ad104, e104, hx104_0, hx104_1, hx104_2⟩ := at_T26 HR0.out x6_1 p104 q104
            cases e104
            replace hx104_0 := (HB.out.cell (World.block_lt_of_cell? w _ hx104_0)).trans hx104_0
            replace hx104_1 := (HB.out.cell (World.block_lt_of_cell? w _ hx104_1)).trans hx104_1
            replace hx104_2 := (HB.out.cell (World.block_lt_of_cell? w _ hx104_2)).trans hx104_2
            replace p104 := eq_true p104;replace q104 := eq_true q104;try go_wp2_with (first | ((with_reducible refine gate_dst (N := 7) rfl ?_); refine box_event ?hg (N := 7) ?hd (cs := #[.int .i64 0, .int .i64 0, .string (⟨#[]⟩ : ByteArray)]) (t := 26) ?hr ?_; (case hd => rfl); (case hg => rfl); (case hr => first | (go_simp; done) | (go_simp; rfl)); intro gb105 hg w16 hbox hb; replace HO_5 := Am (R_below (R_elderB (zR HO_5) gb105 (Nat.le_of_eq hg.symm)) hb);have BK105 := Am (hbox);have GW105 := Am (zO (w := w) HB hg);have GE105 := Am (zO (w := w) HB hg);replace HB := Am (below_step (zB HB) hb); clear hb hbox hg; obtain ⟨hcz17_0, hcz17_1, hcz17_2, hfz17_0, hfz17_1, hfz17_2⟩ := zc3 BK105))
            have n0_ : Aside0 (Kd.R k26 26 (((w16.setCell ⟨gb105, 0, none⟩ (.int .i64 (wrap64 (1 + (Int.tmod (wrap64 ((Int.tmod ((rd_T26 l0 x6_1).f0) 3) + 3)) 3))))).setCell ⟨gb105, 1, none⟩ (.int .i64 0)).setCell ⟨gb105, 2, none⟩ (.string (⟨#[]⟩ : ByteArray))) w.heap.size (fun k_ => k_ ≠ gb105) u5 x5_1) := ⟨by (with_reducible repeat (first | apply R_alloc | apply R_drewN | apply R_drew)); exact R_mono (zY (R_mono HO_5.out (fun k_ hk => (⟨hk, hk.2⟩ : _ ∧ k_ ≠ gb105))) gb105 (fun _ hk => hk.2) (.int .i64 (wrap64 (1 + (Int.tmod (wrap64 ((Int.tmod ((rd_T26 l0 x6_1).f0) 3) + 3)) 3)))) (.int .i64 0) (.string (⟨#[]⟩ : ByteArray))) (fun _ hk => hk.1.2)⟩
            have n1_ : Aside0 ((((w16.setCell ⟨gb105, 0, none⟩ (.int .i64 (wrap64 (1 + (Int.tmod (wrap64 ((Int.tmod ((rd_T26 l0 x6_1).f0) 3) + 3)) 3))))).setCell ⟨gb105, 1, none⟩ (.int .i64 0)).setCell ⟨gb105, 2, none⟩ (.string (⟨#[]⟩ : ByteArray))).heap[gb105]? = some (.cells #[.int .i64 (wrap64 (1 + (Int.tmod (wrap64 ((Int.tmod ((rd_T26 l0 x6_1).f0) 3) + 3)) 3))), .int .i64 0, .string (⟨#[]⟩ : ByteArray)] 26 (0, 0))) := ⟨(zP BK105)⟩
            have n2_ : Aside0 (Below w.heap.size w (((w16.setCell ⟨gb105, 0, none⟩ (.int .i64 (wrap64 (1 + (Int.tmod (wrap64 ((Int.tmod ((rd_T26 l0 x6_1).f0) 3) + 3)) 3))))).setCell ⟨gb105, 1, none⟩ (.int .i64 0)).setCell ⟨gb105, 2, none⟩ (.string (⟨#[]⟩ : ByteArray)))) := ⟨(zB HB)⟩
            (try clear HO_5);(try clear BK105);(try clear HB);generalize (((w16.setCell ⟨gb105, 0, none⟩ (.int .i64 (wrap64 (1 + (Int.tmod (wrap64 ((Int.tmod ((rd_T26 l0 x6_1).f0) 3) + 3)) 3))))).setCell ⟨gb105, 1, none⟩ (.int .i64 0)).setCell ⟨gb105, 2, none⟩ (.string (⟨#[]⟩ : ByteArray))) = w18 at n0_ n1_ n2_ ⊢
            have HO_5 := n0_;have BK105 := n1_;have HB := n2_;clear n0_ n1_ n2_;replace HO_5 := Am (R_drew HO_5.out);replace BK105 := Am (blk_drew BK105.out);replace HB := Am (below_drew1 HB.out);have p106 : 0 ≤ (x6_1 : Int) := of_decide_eq_true (by assumption)
            have q106 : x6_1 < (l0.length : Int) := of_decide_eq_true (by assumption)
            obtain ⟨ad106, e106, hx106_0, hx106_1, hx106_2⟩ := at_T26 HR0.out x6_1 p106 q106
            have hw106_2 := hx106_2
            have hw106_1 := hx106_1
            have hw106_0 := hx106_0
            obtain rfl : ad104 = ad106 := (by injection e106)
            replace hx106_0 := (HB.out.cell (World.block_lt_of_cell? w _ hx106_0)).trans hx106_0
            replace hx106_1 := (HB.out.cell (World.block_lt_of_cell? w _ hx106_1)).trans hx106_1
            replace hx106_2 := (HB.out.cell (World.block_lt_of_cell? w _ hx106_2)).trans hx106_2
            replace p106 := eq_true p106;replace q106 := eq_true q106;have p107 : 0 ≤ (x6_1 : Int) := of_decide_eq_true (by assumption)
            have q107 : x6_1 < (l0.length : Int) := of_decide_eq_true (by assumption)
            obtain ⟨ad107, e107, hx107_0, hx107_1, hx107_2⟩ := at_T26 HR0.out x6_1 p107 q107
            have hw107_2 := hx107_2
            have hw107_1 := hx107_1
            have hw107_0 := hx107_0
            obtain rfl : ad104 = ad107 := (by injection e107)
            replace hx107_0 := (HB.out.cell (World.block_lt_of_cell? w _ hx107_0)).trans hx107_0
            replace hx107_1 := (HB.out.cell (World.block_lt_of_cell? w _ hx107_1)).trans hx107_1
            replace hx107_2 := (HB.out.cell (World.block_lt_of_cell? w _ hx107_2)).trans hx107_2
            replace p107 := eq_true p107;replace q107 := eq_true q107;refine start_ (n := 16) (S := fun w' => w'.cell? (ad104.add ((x6_1).toNat * 3)) = some (.int .i64 ((rd_T26 l0 x6_1).f0)) ∧ w'.cell? ⟨(ad104.add ((x6_1).toNat * 3)).block, (ad104.add ((x6_1).toNat * 3)).off + 1, none⟩ = some (.int .i64 ((rd_T26 l0 x6_1).f1)) ∧ w'.cell? ⟨(ad104.add ((x6_1).toNat * 3)).block, (ad104.add ((x6_1).toNat * 3)).off + 2, none⟩ = some (.string ((rd_T26 l0 x6_1).f2)) ∧ w'.cell? (ad104.add ((x6_1).toNat * 3)) = some (.int .i64 ((rd_T26 l0 x6_1).f0)) ∧ w'.cell? ⟨(ad104.add ((x6_1).toNat * 3)).block, (ad104.add ((x6_1).toNat * 3)).off + 1, none⟩ = some (.int .i64 ((rd_T26 l0 x6_1).f1)) ∧ w'.cell? ⟨(ad104.add ((x6_1).toNat * 3)).block, (ad104.add ((x6_1).toNat * 3)).off + 2, none⟩ = some (.string ((rd_T26 l0 x6_1).f2))) (ds := []) #[false, false, false, false, false, false, false, false, false, false, false, false, false, false, false, false] (by kernel_rfl) rfl rfl ⟨((HB.out.cell (World.block_lt_of_cell? w _ hw106_0)).trans hw106_0), ((HB.out.cell (World.block_lt_of_cell? w _ hw106_1)).trans hw106_1), ((HB.out.cell (World.block_lt_of_cell? w _ hw106_2)).trans hw106_2), ((HB.out.cell (World.block_lt_of_cell? w _ hw107_0)).trans hw107_0), ((HB.out.cell (World.block_lt_of_cell? w _ hw107_1)).trans hw107_1), ((HB.out.cell (World.block_lt_of_cell? w _ hw107_2)).trans hw107_2)⟩ (fun hHeld => ?_); refine with_tabW epitomeref04_Fit.tab7 epitomeref04_Fit.bits7 (fun HT_ HW_ => ?_)
            generalize w18.drew = w19 at HO_5 BK105 HB hx106_0 hx106_1 hx106_2 hx107_0 hx107_1 hx107_2 hHeld ⊢
            refine pure_ (i := 0) (N := some 32) (v := ?_) (a' := ?_) #[true, false, false, false, false, false, false, false, false, false, false, false, false, false, false, false] rfl rfl (any_of HT_.out (by kernel_rfl)) (fun _ _ _ h => h) (Or.inl ⟨by rfl, ?_⟩) ?_ ?_
            rotate_left
            ·intro w'
             go_simp;with_reducible rfl
            rotate_left
            ·simp only [Act.put, zS, i64_w, i32_w]
             rfl
            refine pure_ (i := 1) (N := some 33) (v := ?_) (a' := ?_) #[true, true, false, false, false, false, false, false, false, false, false, false, false, false, false, false] rfl rfl (any_of HT_.out (by kernel_rfl)) (fun _ _ _ h => h) (Or.inl ⟨by rfl, ?_⟩) ?_ ?_
            rotate_left
            ·intro w'
             go_simp;with_reducible rfl
            rotate_left
            ·simp only [Act.put, zS, i64_w, i32_w]
             rfl
            refine pure_ (i := 2) (N := some 34) (v := ?_) (a' := ?_) #[true, true, true, false, false, false, false, false, false, false, false, false, false, false, false, false] rfl rfl (any_of HT_.out (by kernel_rfl)) (fun _ _ _ h => h) (Or.inl ⟨by rfl, ?_⟩) ?_ ?_
            rotate_left
            ·intro w'
             go_simp;with_reducible rfl
            rotate_left
            ·simp only [Act.put, zS, i64_w, i32_w]
             rfl
            refine pure_ (i := 3) (N := some 35) (v := ?_) (a' := ?_) #[true, true, true, true, false, false, false, false, false, false, false, false, false, false, false, false] rfl rfl (any_of HT_.out (by kernel_rfl)) (fun _ _ _ h => h) (Or.inl ⟨by rfl, ?_⟩) ?_ ?_
            rotate_left
            ·intro w'
             go_simp;with_reducible rfl
            rotate_left
            ·simp only [Act.put, zS, i64_w, i32_w]
             rfl
            refine pure_ (i := 5) (N := some 37) (v := ?_) (a' := ?_) #[true, true, true, true, false, true, false, false, false, false, false, false, false, false, false, false] rfl rfl (any_of HT_.out (by kernel_rfl)) (fun _ _ _ h => h) (Or.inl ⟨by rfl, ?_⟩) ?_ ?_
            rotate_left
            ·intro w'
             go_simp;with_reducible rfl
            rotate_left
            ·simp only [Act.put, zS, i64_w, i32_w]
             rfl
            refine pure_ (i := 6) (N := some 38) (v := ?_) (a' := ?_) #[true, true, true, true, false, true, true, false, false, false, false, false, false, false, false, false] rfl rfl (any_of HT_.out (by kernel_rfl)) (fun _ _ _ h => h) (Or.inl ⟨by rfl, ?_⟩) ?_ ?_
            rotate_left
            ·intro w'
             go_simp;with_reducible rfl
            rotate_left
            ·simp only [Act.put, zS, i64_w, i32_w]
             rfl
            refine pure_ (i := 7) (N := some 39) (v := ?_) (a' := ?_) #[true, true, true, true, false, true, true, true, false, false, false, false, false, false, false, false] rfl rfl (any_of HT_.out (by kernel_rfl)) (fun _ _ _ h => h) (Or.inl ⟨by rfl, ?_⟩) ?_ ?_
            rotate_left
            ·intro w'
             go_simp;with_reducible rfl
            rotate_left
            ·simp only [Act.put, zS, i64_w, i32_w]
             rfl
            refine pure_ (i := 8) (N := some 40) (v := ?_) (a' := ?_) #[true, true, true, true, false, true, true, true, true, false, false, false, false, false, false, false] rfl rfl (any_of HT_.out (by kernel_rfl)) (fun _ _ _ h => h) (Or.inl ⟨by rfl, ?_⟩) ?_ ?_
            rotate_left
            ·intro w'
             go_simp;with_reducible rfl
            rotate_left
            ·simp only [Act.put, zS, i64_w, i32_w]
             rfl
            refine take_ (i := 4) (N := some 36) (v := ?_) (a' := ?_) #[true, true, true, true, true, true, true, true, true, false, false, false, false, false, false, false] rfl rfl (take_ofW HT_.out HW_.out (by kernel_rfl)) (fun _ _ _ h => h) (Or.inl ⟨by rfl, ?_⟩) hHeld ?_ ?_
            rotate_left
            ·rintro w' ⟨s0, s1, s2, s3, s4, s5⟩
             go_simp;with_reducible rfl
            rotate_left
            ·simp only [Act.put, zS, i64_w, i32_w]
             rfl
            refine take_ (i := 9) (N := some 41) (v := ?_) (a' := ?_) #[true, true, true, true, true, true, true, true, true, true, false, false, false, false, false, false] rfl rfl (take_ofW HT_.out HW_.out (by kernel_rfl)) (fun _ _ _ h => h) (Or.inl ⟨by rfl, ?_⟩) hHeld ?_ ?_
            rotate_left
            ·rintro w' ⟨s0, s1, s2, s3, s4, s5⟩
             go_simp;with_reducible rfl
            rotate_left
            ·simp only [Act.put, zS, i64_w, i32_w]
             rfl
            refine pure_ (i := 10) (N := some 42) (v := ?_) (a' := ?_) #[true, true, true, true, true, true, true, true, true, true, true, false, false, false, false, false] rfl rfl (any_of HT_.out (by kernel_rfl)) (fun _ _ _ h => h) (Or.inl ⟨by rfl, ?_⟩) ?_ ?_
            rotate_left
            ·intro w'
             go_simp;with_reducible rfl
            rotate_left
            ·simp only [Act.put, zS, i64_w, i32_w]
             rfl
            refine pure_ (i := 11) (N := some 43) (v := ?_) (a' := ?_) #[true, true, true, true, true, true, true, true, true, true, true, true, false, false, false, false] rfl rfl (any_of HT_.out (by kernel_rfl)) (fun _ _ _ h => h) (Or.inl ⟨by rfl, ?_⟩) ?_ ?_
            rotate_left
            ·intro w'
             go_simp;with_reducible rfl
            rotate_left
            ·simp only [Act.put, zS, i64_w, i32_w]
             rfl
            refine pure_ (i := 12) (N := some 44) (v := ?_) (a' := ?_) #[true, true, true, true, true, true, true, true, true, true, true, true, true, false, false, false] rfl rfl (any_of HT_.out (by kernel_rfl)) (fun _ _ _ h => h) (Or.inl ⟨by rfl, ?_⟩) ?_ ?_
            rotate_left
            ·intro w'
             go_simp;with_reducible rfl
            rotate_left
            ·simp only [Act.put, zS, i64_w, i32_w]
             rfl
            refine one_ (i := 13) (N := some 45) #[true, true, true, true, true, true, true, true, true, true, true, true, true, true, false, false] rfl rfl (one_of HT_.out (by kernel_rfl)) (by decide) (fun K hK => ?_)
            refine goes_ Tryd.func14 (by kernel_rfl) rfl #[.string (((rd_T26 l0 x6_1).f2).extract 0 ((ji11) : Int).toNat)] (by rfl) rfl rfl (by (try simp only [List.map_toArray, List.map_cons, List.map_nil]); first | done | (simp only [hji11]; rfl) | rfl | (simp only [List.length_drop, List.length_take]; rfl)) ?_
            with_reducible refine (epitomeref01_Fit.calls kj4 (((rd_T26 l0 x6_1).f2).extract 0 ((ji11) : Int).toNat) t108 _ A14.out).mono ?_
            rintro e w20 ⟨rfl, hb⟩
            refine ⟨_, rfl, ?_⟩
            replace HO_5 := Am (R_below (zR HO_5) hb);replace BK105 := Am (zU BK105 hb);replace HB := Am (below_step (zB HB) hb);(try clear hb);(try clear hb2);(try clear hk);(try clear hi);refine hK.out _ _ ⟨((HB.out.cell (World.block_lt_of_cell? w _ hw106_0)).trans hw106_0), ((HB.out.cell (World.block_lt_of_cell? w _ hw106_1)).trans hw106_1), ((HB.out.cell (World.block_lt_of_cell? w _ hw106_2)).trans hw106_2), ((HB.out.cell (World.block_lt_of_cell? w _ hw107_0)).trans hw107_0), ((HB.out.cell (World.block_lt_of_cell? w _ hw107_1)).trans hw107_1), ((HB.out.cell (World.block_lt_of_cell? w _ hw107_2)).trans hw107_2)⟩ (fun hHeld => ?_)
            clear hK K;refine norm_ (a' := ?_) ?_ ?_
            rotate_left
            ·show Act.put _ (some 45) _ = _
             simp only [Act.put, zS, i64_w, i32_w]
             rfl
            refine pure_ (i := 14) (N := some 46) (v := ?_) (a' := ?_) #[true, true, true, true, true, true, true, true, true, true, true, true, true, true, true, false] rfl rfl (any_of HT_.out (by kernel_rfl)) (fun _ _ _ h => h) (Or.inl ⟨by rfl, ?_⟩) ?_ ?_
            rotate_left
            ·intro w'
             go_simp;with_reducible rfl
            rotate_left
            ·simp only [Act.put, zS, i64_w, i32_w]
             rfl
            refine one_ (i := 15) (N := none) #[true, true, true, true, true, true, true, true, true, true, true, true, true, true, true, true] rfl rfl (one_of HT_.out (by kernel_rfl)) (by decide) (fun K hK => ?_)
            have hs21 : w20.cell? ⟨gb105, 2, none⟩ = some (.string (⟨#[]⟩ : ByteArray)) := (blk_cell BK105.out 2).trans rfl
            have hfs21 := blk_frozen BK105.out 2;refine skip_ (w1 := ?_) (by rfl) rfl ?_ ?_
            rotate_left
            ·go_simp;rfl
            refine hK.out _ _ ⟨((cell_far (p := ⟨gb105, _, none⟩) (by first | exact Nat.ne_of_lt (Nat.lt_of_lt_of_le (by have := World.block_lt_of_cell? _ _ hw106_0; first | rwa [add_block] at this | exact this) GW105.out) | (rw [add_block]; exact Nat.ne_of_lt (Nat.lt_of_lt_of_le (by have := World.block_lt_of_cell? _ _ hw106_0; first | rwa [add_block] at this | exact this) GW105.out)) | (show (Addr.add _ _).block ≠ _; rw [add_block]; exact Nat.ne_of_lt (Nat.lt_of_lt_of_le (by have := World.block_lt_of_cell? _ _ hw106_0; first | rwa [add_block] at this | exact this) GW105.out)) | (dsimp only; exact Nat.ne_of_lt (Nat.lt_of_lt_of_le (by have := World.block_lt_of_cell? _ _ hw106_0; first | rwa [add_block] at this | exact this) GW105.out))) _).trans (hHeld.1)), ((cell_far (p := ⟨gb105, _, none⟩) (by first | exact Nat.ne_of_lt (Nat.lt_of_lt_of_le (by have := World.block_lt_of_cell? _ _ hw106_1; first | rwa [add_block] at this | exact this) GW105.out) | (rw [add_block]; exact Nat.ne_of_lt (Nat.lt_of_lt_of_le (by have := World.block_lt_of_cell? _ _ hw106_1; first | rwa [add_block] at this | exact this) GW105.out)) | (show (Addr.add _ _).block ≠ _; rw [add_block]; exact Nat.ne_of_lt (Nat.lt_of_lt_of_le (by have := World.block_lt_of_cell? _ _ hw106_1; first | rwa [add_block] at this | exact this) GW105.out)) | (dsimp only; exact Nat.ne_of_lt (Nat.lt_of_lt_of_le (by have := World.block_lt_of_cell? _ _ hw106_1; first | rwa [add_block] at this | exact this) GW105.out))) _).trans (hHeld.2.1)), ((cell_far (p := ⟨gb105, _, none⟩) (by first | exact Nat.ne_of_lt (Nat.lt_of_lt_of_le (by have := World.block_lt_of_cell? _ _ hw106_2; first | rwa [add_block] at this | exact this) GW105.out) | (rw [add_block]; exact Nat.ne_of_lt (Nat.lt_of_lt_of_le (by have := World.block_lt_of_cell? _ _ hw106_2; first | rwa [add_block] at this | exact this) GW105.out)) | (show (Addr.add _ _).block ≠ _; rw [add_block]; exact Nat.ne_of_lt (Nat.lt_of_lt_of_le (by have := World.block_lt_of_cell? _ _ hw106_2; first | rwa [add_block] at this | exact this) GW105.out)) | (dsimp only; exact Nat.ne_of_lt (Nat.lt_of_lt_of_le (by have := World.block_lt_of_cell? _ _ hw106_2; first | rwa [add_block] at this | exact this) GW105.out))) _).trans (hHeld.2.2.1)), ((cell_far (p := ⟨gb105, _, none⟩) (by first | exact Nat.ne_of_lt (Nat.lt_of_lt_of_le (by have := World.block_lt_of_cell? _ _ hw107_0; first | rwa [add_block] at this | exact this) GW105.out) | (rw [add_block]; exact Nat.ne_of_lt (Nat.lt_of_lt_of_le (by have := World.block_lt_of_cell? _ _ hw107_0; first | rwa [add_block] at this | exact this) GW105.out)) | (show (Addr.add _ _).block ≠ _; rw [add_block]; exact Nat.ne_of_lt (Nat.lt_of_lt_of_le (by have := World.block_lt_of_cell? _ _ hw107_0; first | rwa [add_block] at this | exact this) GW105.out)) | (dsimp only; exact Nat.ne_of_lt (Nat.lt_of_lt_of_le (by have := World.block_lt_of_cell? _ _ hw107_0; first | rwa [add_block] at this | exact this) GW105.out))) _).trans (hHeld.2.2.2.1)), ((cell_far (p := ⟨gb105, _, none⟩) (by first | exact Nat.ne_of_lt (Nat.lt_of_lt_of_le (by have := World.block_lt_of_cell? _ _ hw107_1; first | rwa [add_block] at this | exact this) GW105.out) | (rw [add_block]; exact Nat.ne_of_lt (Nat.lt_of_lt_of_le (by have := World.block_lt_of_cell? _ _ hw107_1; first | rwa [add_block] at this | exact this) GW105.out)) | (show (Addr.add _ _).block ≠ _; rw [add_block]; exact Nat.ne_of_lt (Nat.lt_of_lt_of_le (by have := World.block_lt_of_cell? _ _ hw107_1; first | rwa [add_block] at this | exact this) GW105.out)) | (dsimp only; exact Nat.ne_of_lt (Nat.lt_of_lt_of_le (by have := World.block_lt_of_cell? _ _ hw107_1; first | rwa [add_block] at this | exact this) GW105.out))) _).trans (hHeld.2.2.2.2.1)), ((cell_far (p := ⟨gb105, _, none⟩) (by first | exact Nat.ne_of_lt (Nat.lt_of_lt_of_le (by have := World.block_lt_of_cell? _ _ hw107_2; first | rwa [add_block] at this | exact this) GW105.out) | (rw [add_block]; exact Nat.ne_of_lt (Nat.lt_of_lt_of_le (by have := World.block_lt_of_cell? _ _ hw107_2; first | rwa [add_block] at this | exact this) GW105.out)) | (show (Addr.add _ _).block ≠ _; rw [add_block]; exact Nat.ne_of_lt (Nat.lt_of_lt_of_le (by have := World.block_lt_of_cell? _ _ hw107_2; first | rwa [add_block] at this | exact this) GW105.out)) | (dsimp only; exact Nat.ne_of_lt (Nat.lt_of_lt_of_le (by have := World.block_lt_of_cell? _ _ hw107_2; first | rwa [add_block] at this | exact this) GW105.out))) _).trans (hHeld.2.2.2.2.2))⟩ (fun hHeld => ?_)
            clear hK K;refine done_ (done_of HT_.out (by kernel_rfl)) ?_
            obtain ⟨hcz22_0, hcz22_1, hcz22_2, hfz22_0, hfz22_1, hfz22_2⟩ := zc3 BK105;try go_wp2_with (first | ((with_reducible refine gate_builtin (b := .append) (xs := #[.tmp 62, .tmp 64]) rfl ?_); at_builtin; refine R_append k26 (w0 := w) w.heap.size rfl (.tmp 62) (.tmp 64) 27 26 (.agg #[(.int .i64 0), (.int .i64 0), (.string ⟨#[]⟩)]) 32 rfl Tryd.underlying27 info26 rfl (by decide) (by omega) u5 x5_1 (⟨wrap64 (1 + (Int.tmod (wrap64 ((Int.tmod ((rd_T26 l0 x6_1).f0) 3) + 3)) 3)), 0, t108⟩ : S26) [.int .i64 (wrap64 (1 + (Int.tmod (wrap64 ((Int.tmod ((rd_T26 l0 x6_1).f0) 3) + 3)) 3))), .int .i64 0, .string t108] (fun k_ => k_ ≠ gb105) (fun _ => False) rfl (by first | (go_simp; done) | (go_simp; rfl)) ?aP (fun _ hk => hk.elim) ?aF ?aO ?aB ?aS ?aL ?_; (case aP => exact k26_mkM _ _ _ (⟨wrap64 (1 + (Int.tmod (wrap64 ((Int.tmod ((rd_T26 l0 x6_1).f0) 3) + 3)) 3)), 0, t108⟩ : S26)); (case aB => exact (zB HB)); (case aF => exact (fun k_ hk => Kd.freshB (g := gb105) (o := .cells #[.int .i64 (wrap64 (1 + (Int.tmod (wrap64 ((Int.tmod ((rd_T26 l0 x6_1).f0) 3) + 3)) 3))), .int .i64 0, .string t108] 26 (0, 0)) (zP BK105) k_ hk)); (case aO => exact (by (with_reducible repeat (first | apply R_alloc | apply R_drewN | apply R_drew)); exact R_mono (R_far (p := ⟨gb105, 2, none⟩) (R_mono HO_5.out (fun k_ hk => (⟨hk, hk⟩ : _ ∧ k_ ≠ gb105))) (fun _ hk => hk.2) (.string t108)) (fun _ hk => hk.1))); (case aS => exact (below_size (zB HB))); (case aL => have := LMc15.out; omega); intro v110 w23 ho hb hg hat; rw [← Ny109.out] at ho; replace BK105 := Am (blk_grown (g := gb105) (o := .cells #[.int .i64 (wrap64 (1 + (Int.tmod (wrap64 ((Int.tmod ((rd_T26 l0 x6_1).f0) 3) + 3)) 3))), .int .i64 0, .string t108] 26 (0, 0)) (zP BK105) hg (R_away HO_5.out (fun _ hk => hk)));replace HB := Am (hb);have HO111 := Am (ho);clear HO_5; clear ho hb hg hat))
            go_roundg kj4
            case measure => have := HK1.out; have := HJ4.out; omega
            case rel => exact ⟨(x1_1), (y109), (wrap64 (x6_1 + 1)), zG, zG, H', ⟨by have := HK1.out; have := HJ4.out; omega⟩, ⟨by (with_reducible repeat (first | apply R_alloc | apply R_drewN | apply R_drew)); exact R_mono HO111.out (fun _ hk => trivial)⟩, ⟨(zB HB)⟩⟩
           ·rw [if_neg c15] at H;exact absurd H (by simp)
          ·rw [if_neg c13] at H;exact absurd H (by simp)
         ·rw [if_neg c12] at H;exact absurd H (by simp)
        ·rw [if_neg c10] at H;have c10b0 : ((wrap64 (1 + (Int.tmod (wrap64 ((Int.tmod ((rd_T26 l0 x6_1).f0) 3) + 3)) 3))) == 2) = false := beq_eq_false_iff_ne.mpr c10
         have c10b1 : ((wrap64 (1 + (Int.tmod (wrap64 ((Int.tmod ((rd_T26 l0 x6_1).f0) 3) + 3)) 3))) != 2) = true := bne_iff_ne.mpr c10
         obtain ⟨ji24, hji24⟩ : ∃ j_ : Int, (mn (Int.tmod (wrap64 ((Int.tmod ((rd_T26 l0 x6_1).f1) 7) + 7)) 7) x1_1) = j_ := ⟨_, rfl⟩
         replace H : (if x5_1.length < 4398046511104 then (epitomeref04_Fit.l0 kj4 l0 (wrap64 (x1_1 - (ji24))) (x5_1 ++ [(⟨wrap64 (1 + (Int.tmod (wrap64 ((Int.tmod ((rd_T26 l0 x6_1).f0) 3) + 3)) 3)), ji24, (⟨#[]⟩ : ByteArray)⟩ : S26)]) (wrap64 (x6_1 + 1))) else (none)) = some r := by first | (rw [hji24] at H; exact H) | (simp only [hji24] at H ⊢; exact H)
         have hji24_ : (if x1_1 < (Int.tmod (wrap64 ((Int.tmod ((rd_T26 l0 x6_1).f1) 7) + 7)) 7) then x1_1 else (Int.tmod (wrap64 ((Int.tmod ((rd_T26 l0 x6_1).f1) 7) + 7)) 7)) = ji24 := hji24
         by_cases c25 : x5_1.length < 4398046511104
         ·rw [if_pos c25] at H;have LMc25 := Am c25;clear c25;obtain ⟨y113, hy113⟩ : ∃ y_ : List (S26), y_ = (x5_1 ++ [(⟨wrap64 (1 + (Int.tmod (wrap64 ((Int.tmod ((rd_T26 l0 x6_1).f0) 3) + 3)) 3)), ji24, (⟨#[]⟩ : ByteArray)⟩ : S26)]) := ⟨_, rfl⟩
          replace H : (epitomeref04_Fit.l0 kj4 l0 (wrap64 (x1_1 - (ji24))) y113 (wrap64 (x6_1 + 1))) = some r := by first | (rw [hy113]; with_reducible exact H) | (have H2_ := (Option.bind_some _ _).symm.trans H; rw [hy113]; with_reducible exact H2_) | (have H2_ := (Option.bind_some _ _).symm.trans H; with_reducible exact H2_) | with_reducible exact H | (rw [hy113]; exact H) | exact H
          have Ny113 := Am hy113;clear hy113;have H' := Am H
          clear H;have p104 : 0 ≤ (x6_1 : Int) := of_decide_eq_true (by assumption)
          have q104 : x6_1 < (l0.length : Int) := of_decide_eq_true (by assumption)
          obtain ⟨ad104, e104, hx104_0, hx104_1, hx104_2⟩ := at_T26 HR0.out x6_1 p104 q104
          cases e104
          replace hx104_0 := (HB.out.cell (World.block_lt_of_cell? w _ hx104_0)).trans hx104_0
          replace hx104_1 := (HB.out.cell (World.block_lt_of_cell? w _ hx104_1)).trans hx104_1
          replace hx104_2 := (HB.out.cell (World.block_lt_of_cell? w _ hx104_2)).trans hx104_2
          replace p104 := eq_true p104;replace q104 := eq_true q104;go_wp2_with (first | ((with_reducible refine gate_dst (N := 7) rfl ?_); refine box_event ?hg (N := 7) ?hd (cs := #[.int .i64 0, .int .i64 0, .string (⟨#[]⟩ : ByteArray)]) (t := 26) ?hr ?_; (case hd => rfl); (case hg => rfl); (case hr => first | (go_simp; done) | (go_simp; rfl)); intro gb105 hg w26 hbox hb; replace HO_5 := Am (R_below (R_elderB (zR HO_5) gb105 (Nat.le_of_eq hg.symm)) hb);have BK105 := Am (hbox);have GW105 := Am (zO (w := w) HB hg);have GE105 := Am (zO (w := w) HB hg);replace HB := Am (below_step (zB HB) hb); clear hb hbox hg; obtain ⟨hcz27_0, hcz27_1, hcz27_2, hfz27_0, hfz27_1, hfz27_2⟩ := zc3 BK105; have p112 : 0 ≤ (x6_1 : Int) := of_decide_eq_true (by assumption); have q112 : x6_1 < (l0.length : Int) := of_decide_eq_true (by assumption); obtain ⟨ad112, e112, hx112_0, hx112_1, hx112_2⟩ := at_T26 HR0.out x6_1 p112 q112; obtain rfl : ad104 = ad112 := (by injection e112); have hn112_0 : ad104.block ≠ gb105 := Nat.ne_of_lt (Nat.lt_of_lt_of_le (by have := World.block_lt_of_cell? _ _ hx112_0; first | rwa [add_block] at this | exact this) GW105.out); have hn112_1 : ad104.block ≠ gb105 := Nat.ne_of_lt (Nat.lt_of_lt_of_le (by have := World.block_lt_of_cell? _ _ hx112_0; first | rwa [add_block] at this | exact this) GW105.out); have hn112_2 : ad104.block ≠ gb105 := Nat.ne_of_lt (Nat.lt_of_lt_of_le (by have := World.block_lt_of_cell? _ _ hx112_0; first | rwa [add_block] at this | exact this) GW105.out); replace hx112_0 := (HB.out.cell (World.block_lt_of_cell? w _ hx112_0)).trans hx112_0; replace hx112_1 := (HB.out.cell (World.block_lt_of_cell? w _ hx112_1)).trans hx112_1; replace hx112_2 := (HB.out.cell (World.block_lt_of_cell? w _ hx112_2)).trans hx112_2; replace hx112_0 := (cell_far (p := ⟨gb105, 0, none⟩) (zN hn112_0) (.int .i64 (wrap64 (1 + (Int.tmod (wrap64 ((Int.tmod ((rd_T26 l0 x6_1).f0) 3) + 3)) 3))))).trans hx112_0; replace hx112_1 := (cell_far (p := ⟨gb105, 0, none⟩) (zN hn112_0) (.int .i64 (wrap64 (1 + (Int.tmod (wrap64 ((Int.tmod ((rd_T26 l0 x6_1).f0) 3) + 3)) 3))))).trans hx112_1; replace hx112_2 := (cell_far (p := ⟨gb105, 0, none⟩) (zN hn112_0) (.int .i64 (wrap64 (1 + (Int.tmod (wrap64 ((Int.tmod ((rd_T26 l0 x6_1).f0) 3) + 3)) 3))))).trans hx112_2; replace hx112_0 := (cell_far (p := ⟨gb105, 1, none⟩) (zN hn112_1) (.int .i64 0)).trans hx112_0; replace hx112_1 := (cell_far (p := ⟨gb105, 1, none⟩) (zN hn112_1) (.int .i64 0)).trans hx112_1; replace hx112_2 := (cell_far (p := ⟨gb105, 1, none⟩) (zN hn112_1) (.int .i64 0)).trans hx112_2; replace hx112_0 := (cell_far (p := ⟨gb105, 2, none⟩) (zN hn112_2) (.string (⟨#[]⟩ : ByteArray))).trans hx112_0; replace hx112_1 := (cell_far (p := ⟨gb105, 2, none⟩) (zN hn112_2) (.string (⟨#[]⟩ : ByteArray))).trans hx112_1; replace hx112_2 := (cell_far (p := ⟨gb105, 2, none⟩) (zN hn112_2) (.string (⟨#[]⟩ : ByteArray))).trans hx112_2; clear hn112_0; clear hn112_1; clear hn112_2; replace p112 := eq_true p112; replace q112 := eq_true q112) | ((with_reducible refine gate_builtin (b := .append) (xs := #[.tmp 62, .tmp 64]) rfl ?_); at_builtin; refine R_append k26 (w0 := w) w.heap.size rfl (.tmp 62) (.tmp 64) 27 26 (.agg #[(.int .i64 0), (.int .i64 0), (.string ⟨#[]⟩)]) 32 rfl Tryd.underlying27 info26 rfl (by decide) (by omega) u5 x5_1 (⟨wrap64 (1 + (Int.tmod (wrap64 ((Int.tmod ((rd_T26 l0 x6_1).f0) 3) + 3)) 3)), ji24, (⟨#[]⟩ : ByteArray)⟩ : S26) [.int .i64 (wrap64 (1 + (Int.tmod (wrap64 ((Int.tmod ((rd_T26 l0 x6_1).f0) 3) + 3)) 3))), .int .i64 ji24, .string (⟨#[]⟩ : ByteArray)] (fun k_ => k_ ≠ gb105) (fun _ => False) rfl (by first | (go_simp; done) | (go_simp; rfl)) ?aP (fun _ hk => hk.elim) ?aF ?aO ?aB ?aS ?aL ?_; (case aP => exact k26_mkM _ _ _ (⟨wrap64 (1 + (Int.tmod (wrap64 ((Int.tmod ((rd_T26 l0 x6_1).f0) 3) + 3)) 3)), ji24, (⟨#[]⟩ : ByteArray)⟩ : S26)); (case aB => exact (zB HB)); (case aF => exact (fun k_ hk => Kd.freshB (g := gb105) (o := .cells #[.int .i64 (wrap64 (1 + (Int.tmod (wrap64 ((Int.tmod ((rd_T26 l0 x6_1).f0) 3) + 3)) 3))), .int .i64 ji24, .string (⟨#[]⟩ : ByteArray)] 26 (0, 0)) (zP BK105) k_ hk)); (case aO => exact (by (with_reducible repeat (first | apply R_alloc | apply R_drewN | apply R_drew)); exact R_mono (R_far (p := ⟨gb105, 1, none⟩) (zY (R_mono HO_5.out (fun k_ hk => (⟨hk, hk.2⟩ : _ ∧ k_ ≠ gb105))) gb105 (fun _ hk => hk.2) (.int .i64 (wrap64 (1 + (Int.tmod (wrap64 ((Int.tmod ((rd_T26 l0 x6_1).f0) 3) + 3)) 3)))) (.int .i64 0) (.string (⟨#[]⟩ : ByteArray))) (fun _ hk => hk.2) (.int .i64 ji24)) (fun _ hk => hk.1.2))); (case aS => exact (below_size (zB HB))); (case aL => have := LMc25.out; omega); intro v114 w28 ho hb hg hat; rw [← Ny113.out] at ho; replace BK105 := Am (blk_grown (g := gb105) (o := .cells #[.int .i64 (wrap64 (1 + (Int.tmod (wrap64 ((Int.tmod ((rd_T26 l0 x6_1).f0) 3) + 3)) 3))), .int .i64 ji24, .string (⟨#[]⟩ : ByteArray)] 26 (0, 0)) (zP BK105) hg (R_away HO_5.out (fun _ hk => hk.2)));replace HB := Am (hb);have HO115 := Am (ho);clear HO_5; clear ho hb hg hat))
          go_roundg kj4
          case measure => have := HK1.out; have := HJ4.out; omega
          case rel => exact ⟨(wrap64 (x1_1 - (ji24))), (y113), (wrap64 (x6_1 + 1)), (by first | rfl | (simp; done) | (simp only [← hji24] <;> (first | rfl | simp)) | (simp [*]; done)), zG, H', ⟨by have := HK1.out; have := HJ4.out; omega⟩, ⟨by (with_reducible repeat (first | apply R_alloc | apply R_drewN | apply R_drew)); exact R_mono HO115.out (fun _ hk => trivial)⟩, ⟨(zB HB)⟩⟩
         ·rw [if_neg c25] at H;exact absurd H (by simp)
       ·rw [if_neg c9] at H;exact absurd H (by simp)
      ·rw [if_neg c8] at H;exact absurd H (by simp)
     ·replace c7 := Bool.eq_false_iff.mpr c7
      subst c7
      have H1 : (if x1_1 > 0 then (if x5_1.length < 4398046511104 then (some (x5_1 ++ [(⟨1, x1_1, (⟨#[]⟩ : ByteArray)⟩ : S26)])) else (none)) else (some x5_1)) = some r := by rw [if_neg (show ¬ (false = true) by decide)] at H; exact H
      clear H;have H := H1
      clear H1;by_cases c29 : x1_1 > 0
      ·rw [if_pos c29] at H;have c29b0 : decide (0 < x1_1) = true := decide_eq_true c29
       clear c29;by_cases c30 : x5_1.length < 4398046511104
       ·rw [if_pos c30] at H;have LMc30 := Am c30;clear c30;obtain ⟨y116, hy116⟩ : ∃ y_ : List (S26), y_ = (x5_1 ++ [(⟨1, x1_1, (⟨#[]⟩ : ByteArray)⟩ : S26)]) := ⟨_, rfl⟩
        replace H : (some y116) = some r := by first | (rw [hy116]; with_reducible exact H) | (have H2_ := (Option.bind_some _ _).symm.trans H; rw [hy116]; with_reducible exact H2_) | (have H2_ := (Option.bind_some _ _).symm.trans H; with_reducible exact H2_) | with_reducible exact H | (rw [hy116]; exact H) | exact H
        have Ny116 := Am hy116;clear hy116;obtain rfl := Option.some.inj H;go_wp2_with (first | ((with_reducible refine gate_builtin (b := .append) (xs := #[.tmp 68, .tmp 71]) rfl ?_); at_builtin; refine R_append k26 (w0 := w) w.heap.size rfl (.tmp 68) (.tmp 71) 27 26 (.agg #[(.int .i64 0), (.int .i64 0), (.string ⟨#[]⟩)]) 32 rfl Tryd.underlying27 info26 rfl (by decide) (by omega) u5 x5_1 (⟨1, x1_1, (⟨#[]⟩ : ByteArray)⟩ : S26) [.int .i64 1, .int .i64 x1_1, .string (⟨#[]⟩ : ByteArray)] (fun _ => True) (fun _ => False) rfl rfl ?aP (fun _ hk => hk.elim) ?aF ?aO ?aB ?aS ?aL ?_; (case aP => exact k26_mkM _ _ _ (⟨1, x1_1, (⟨#[]⟩ : ByteArray)⟩ : S26)); (case aB => exact (zB HB)); (case aF => exact (fun _ _ => trivial)); (case aO => exact (zR HO_5)); (case aS => exact (below_size (zB HB))); (case aL => have := LMc30.out; omega); intro v117 w31 ho hb hg hat; rw [← Ny116.out] at ho; replace HB := Am (hb);have HO118 := Am (ho);clear HO_5; clear ho hb hg hat))
        go_ret
        exact ⟨_, zF, (zR HO118), (zB HB)⟩
       ·rw [if_neg c30] at H;exact absurd H (by simp)
      ·rw [if_neg c29] at H;have c29b0 : decide (0 < x1_1) = false := decide_eq_false c29
       clear c29;obtain rfl := Option.some.inj H;go_wp2
       go_ret
       exact ⟨_, zF, (zR HO_5), (zB HB)⟩
end Go.Proofs.YtkefbljogjcodaaDoor.F
end
section
namespace Go.Proofs.YtkefbljogjcodaaDoor.F
open Go.RowKit Go.Proofs.YtkefbljogjcodaaDoorW.PrintWords Go.Proofs.YtkefbljogjcodaaDoorW.PrintLast Go.Proofs.YtkefbljogjcodaaDoorW.PrintMore
set_option linter.unusedVariables false
set_option linter.unusedSimpArgs false
abbrev zA.a := @Kd.R_alloc
abbrev zA.n := @Kd.R_drewN
abbrev zA.d := @Kd.R_drew
abbrev zA.w := @pw_below_drewN
abbrev zA.b := @below_alloc
abbrev zA.e := @below_drew1
abbrev zA.s := @below_set
abbrev zA.g := @blk_drew
abbrev zA.h := @blk_alloc
abbrev zA.p := @Kd.Q_alloc
abbrev zA.q := @Kd.Q_drewN
abbrev zA.r := @Kd.Q_drew
end Go.Proofs.YtkefbljogjcodaaDoor.F
end
section
namespace Go.Proofs.YtkefbljogjcodaaDoor.F
open Go.RowKit Go.Proofs.YtkefbljogjcodaaDoorW.PrintWords Go.Proofs.YtkefbljogjcodaaDoorW.PrintLast Go.Proofs.YtkefbljogjcodaaDoorW.PrintMore
set_option linter.unusedVariables false
set_option linter.unusedSimpArgs false
theorem Kd.V_inb {α : Type} {d : Kd α} {e base n c : Nat} {ok : Nat → Prop} {W : World} {ad : Addr} {xs : List α} (h : Kd.V d e W base ok (.slice (some ad) n c) xs) (hn : 0 < n) (hs : 0 < d.sz) : ok ad.block := Kd.F_in (Kd.V_F h) rfl hn hs
theorem Kd.V_ltb {α : Type} {d : Kd α} {e base n c : Nat} {ok : Nat → Prop} {W : World} {ad : Addr} {xs : List α} (h : Kd.V d e W base ok (.slice (some ad) n c) xs) (hn : 0 < n) (hs : 0 < d.sz) : ad.block < W.heap.size := (Kd.F_in (Kd.V_F (Kd.V_bound h)) rfl hn hs).2
end Go.Proofs.YtkefbljogjcodaaDoor.F
end
