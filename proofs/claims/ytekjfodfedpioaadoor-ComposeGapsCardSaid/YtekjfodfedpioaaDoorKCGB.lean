import Derived.Test.YtekjfodfedpioaaDoorKCGA
import Derived.Below
import Derived.Deep.Draws
import Derived.Deep.AppendLies
import Derived.Maps.AppendAt
import Derived.OwnWalk
import Derived.Laws.BytesArg
import Derived.Laws.MakeOwn
import Derived.Laws.OwnMore
import Derived.Deep.OwnRows
import Derived.Tactics
import Derived.Lib.ConvBytes
import Derived.Laws.Slices
import Derived.WalkKit
import Derived.KernelRfl
import Derived.RowKit3
import Derived.Deep.LoopGhost
import Derived.Deep.QuietTactic
import Derived.BigQuiet
import Derived.WideLaws
import Derived.Deep.DeepCutAuto
import Derived.Deep.CutBlock
import Derived.Deep.RegionHeld3
import Derived.Laws.Rows
import Derived.Lib.AppendStr
import Derived.ArgAppend
import Derived.Laws.IdiomCopy
import Derived.RowKit
import Derived.OrdersHeld
import Derived.Laws.BitsLemmas
import Derived.Laws.StructEq
import Derived.Test.YtekjfodfedpioaaDoorProg
import Derived.Handy
import Derived.Shelf.Unicode.DecodeSlow
import Derived.Ground.NamesProg
import Derived.Shelf.Unicode.ValidAny
import Derived.Laws.RangeString
import Derived.Laws.RangeAny
import Derived.Lib.RuneCount
import Derived.Laws.IdiomStrings
import Derived.Laws.Cover4
section
namespace Go.Proofs.YtekjfodfedpioaaDoor.F
open Go.RowKit Go.Proofs.YtekjfodfedpioaaDoorW.PrintWords Go.Proofs.YtekjfodfedpioaaDoorW.PrintLast Go.Proofs.YtekjfodfedpioaaDoorW.PrintMore
attribute [local go_sem] max2_int min2_int max_two min_two max_three min_three max_four min_four
set_option linter.unusedVariables false
set_option linter.unusedSimpArgs false
def errW : Option Int → Value
  | none => .nilIface
  | some c => .iface 0 (.int .i64 c)
theorem errW_none : errW none = .nilIface := rfl
theorem errW_some (c : Int) : errW (some c) = .iface 0 (.int .i64 c) := rfl
theorem info4 : (Tryd.prog.info? 4).map (fun i => (i.zero, i.size, i.bytes)) = some (some (.bool false), 1, 1) := by kernel_rfl
theorem info5 : (Tryd.prog.info? 5).map (fun i => (i.zero, i.size, i.bytes)) = some (some (.int .u8 0), 1, 1) := by kernel_rfl
theorem info9 : (Tryd.prog.info? 9).map (fun i => (i.zero, i.size, i.bytes)) = some (some (.string ⟨#[]⟩), 1, 16) := by kernel_rfl
theorem info21 : (Tryd.prog.info? 21).map (fun i => (i.zero, i.size, i.bytes)) = some (some (.int .i32 0), 1, 4) := by kernel_rfl
theorem info55 : (Tryd.prog.info? 55).map (fun i => (i.zero, i.size, i.bytes)) = some (some (.agg #[(.int .i64 0), (.int .i64 0), (.string ⟨#[]⟩)]), 3, 32) := by kernel_rfl
theorem Am {p : Prop} (h : p) : Aside0 p := Aside0.mk h
theorem bind_named {α β : Type} {x y : α} {f : α → Option β} {r : β} (h : (some x).bind f = some r) (hy : y = x) : f y = some r := by subst hy; exact h
theorem cell_setCell_isSome (w : World) (a b : Addr) (v : Value) : ((w.setCell a v).cell? b).isSome = (w.cell? b).isSome := by
  unfold World.setCell World.cell?
  rw [Array.getElem?_modify]
  cases hh : w.heap[b.block]? with
  | none => by_cases h : a.block = b.block <;> simp [h]
  | some o =>
    by_cases h : a.block = b.block
    · cases o with
      | cells c e f =>
        cases hs : b.spot <;> cases hs2 : a.spot <;> simp [h, Array.getElem?_setIfInBounds]
        split
        · next he =>
          by_cases hb : b.off < c.size
          · simp [he, hb]
          · simp [he, hb]
        · rfl
      | _ => simp [h]
    · simp [h]
theorem isEmpty_bne (l : List UInt8) : (l != []) = !l.isEmpty := by cases l <;> rfl
theorem eqb_r {a b v : Bool} (h : (a == b) = true) (ha : a = v) : b = v := by cases a <;> cases b <;> simp_all
theorem eqb_l {a b v : Bool} (h : (a == b) = true) (hb : b = v) : a = v := by cases a <;> cases b <;> simp_all
theorem neb_r {a b v : Bool} (h : (a == b) = false) (ha : a = v) : b = !v := by cases a <;> cases b <;> simp_all
theorem neb_l {a b v : Bool} (h : (a == b) = false) (hb : b = v) : a = !v := by cases a <;> cases b <;> simp_all
structure S55 where
  f0 : Int
  f1 : Int
  f2 : ByteArray
def z55 : S55 := ⟨(0 : Int), (0 : Int), (⟨#[]⟩ : ByteArray)⟩
def k55 : Kd S55 := Kd.iso (Kd.pair (Kd.int .i64) (Kd.pair (Kd.int .i64) Kd.string)) (fun x : S55 => (x.f0, x.f1, x.f2))
theorem k55_open {w : World} {x : S55} {cs : List Value} (h : k55.K w x cs) : cs = [.int .i64 x.f0, .int .i64 x.f1, .string x.f2] := by
  obtain ⟨_, _, rfl, rfl, ⟨_, _, rfl, rfl, rfl⟩⟩ := h
  exact rfl
theorem k55_openM {w : World} {base : Nat} {ok : Nat → Prop} {x : S55} {cs : List Value} (h : k55.M w base ok x cs) : cs = [.int .i64 x.f0, .int .i64 x.f1, .string x.f2] := by
  obtain ⟨_, _, rfl, rfl, ⟨_, _, rfl, rfl, rfl⟩⟩ := h
  exact rfl
theorem k55_mkM (w : World) (base : Nat) (ok : Nat → Prop) (x : S55)  : k55.M w base ok x [.int .i64 x.f0, .int .i64 x.f1, .string x.f2] := ⟨[.int .i64 x.f0], [.int .i64 x.f1, .string x.f2], rfl, rfl, ⟨[.int .i64 x.f1], [.string x.f2], rfl, rfl, rfl⟩⟩
def rd_T55 (xs : List S55) (i : Int) : S55 := xs.getD i.toNat z55
theorem at_T55 {w : World} {A : Option Addr} {n : Nat} {xs : List S55} (h : Kd.C k55 w A n xs) (i : Int) (h0 : 0 ≤ i) (h1 : i < n) : ∃ ad , A = some ad ∧ w.cell? (ad.add (i.toNat * 3)) = some (.int .i64 (rd_T55 xs i).f0) ∧ w.cell? ⟨(ad.add (i.toNat * 3)).block, (ad.add (i.toNat * 3)).off + 1, none⟩ = some (.int .i64 (rd_T55 xs i).f1) ∧ w.cell? ⟨(ad.add (i.toNat * 3)).block, (ad.add (i.toNat * 3)).off + 2, none⟩ = some (.string (rd_T55 xs i).f2) := by
  obtain ⟨ad, c, e, _, hK, hc0⟩ := Kd.C_get h z55 i h0 h1
  have hc : ∀ j u, c[j]? = some u → w.cell? (ad.add (i.toNat * 3 + j)) = some u := hc0
  obtain rfl := k55_open hK
  exact ⟨ad, e, hc 0 _ rfl, by rw [← add_field _ _ 1 (by omega)]; exact hc 1 _ rfl, by rw [← add_field _ _ 2 (by omega)]; exact hc 2 _ rfl⟩
end Go.Proofs.YtekjfodfedpioaaDoor.F
end
section
namespace Go.Proofs.YtekjfodfedpioaaDoor.F
open Go.RowKit Go.Proofs.YtekjfodfedpioaaDoorW.PrintWords Go.Proofs.YtekjfodfedpioaaDoorW.PrintLast Go.Proofs.YtekjfodfedpioaaDoorW.PrintMore
set_option linter.unusedVariables false
set_option linter.unusedSimpArgs false
theorem zB {P Q : Prop} (h : Aside0 P) (f : P → Q := by intro h_; repeat (first | (with_reducible first | exact h_ | apply below_alloc | apply pw_below_drewN | apply below_drew1 | refine below_set ?_ (Aside0.out (by assumption))) | exact h_)) : Q := f h.out
theorem zR {P Q : Prop} (h : Aside0 P) (f : P → Q := by intro h_; (with_reducible repeat (first | apply Kd.R_alloc | apply Kd.R_drewN | apply Kd.R_drew)); exact h_) : Q := f h.out
theorem zV {P Q : Prop} (h : Aside0 P) (f : P → Q := by intro h_; (with_reducible repeat (first | apply Kd.V_alloc | apply Kd.V_drewN | apply Kd.V_drew)); exact h_) : Q := f h.out
theorem zK {P Q : Prop} (h : Aside0 P) (f : P → Q := by intro h_; (repeat (with_reducible first | refine blk_drewN ?_ _ | refine blk_drew ?_ | refine blk_alloc ?_ _ | refine blk_far ?_ (Aside0.out (by assumption)) _)); exact h_) : Q := f h.out
theorem zE {Q : Prop} (f : Q := by (try simp only [List.map_toArray, List.map_cons, List.map_nil]); first | done | rfl | (simp only [List.length_drop, List.length_take]; rfl)) : Q := f
theorem zF {Q : Prop} (f : Q := by first | rfl | (simp [errW_none, errW_some] <;> rfl) | (simp [*, errW_none, errW_some] <;> rfl)) : Q := f
theorem zG {Q : Prop} (f : Q := by first | rfl | (simp; done) | (simp [*]; done) | (simp [isEmpty_bne]; done)) : Q := f
theorem zI {P Q : Prop} (h : P) (f : P → Q := by intro h_; repeat (first | exact h_ | (with_reducible refine Kd.C_alloc ?_ _) | (with_reducible refine Kd.C_drewN ?_ _) | (with_reducible refine Kd.C_drew ?_))) : Q := f h
theorem zN {P Q : Prop} (h : P) (f : P → Q := by intro h_; first | (rw [add_block]; exact h_) | (show (Addr.add _ _).block ≠ _; rw [add_block]; exact h_) | exact h_) : Q := f h
theorem zD {Q : Prop} (f : Q := by repeat (first | exact Drawn0.refl _ | apply Drawn0.step)) : Q := f
theorem zS : (∀ (l : List Value) (i : Nat) (a : Value), l.toArray.setIfInBounds i a = (l.set i a).toArray) ∧ (∀ (x a : Value) (l : List Value), (x :: l).set 0 a = a :: l) ∧ (∀ (x a : Value) (l : List Value) (i : Nat), (x :: l).set (i + 1) a = x :: l.set i a) := ⟨fun _ _ _ => List.setIfInBounds_toArray .., fun _ _ _ => rfl, fun _ _ _ _ => rfl⟩
theorem zY {α : Type} {d : Kd α} {e : TypeId} {W : World} {base : Nat} {ok : Nat → Prop} {v : Value} {xs : List α} (h : d.R e W base ok v xs) (g : Nat) (hk : ∀ k, ok k → k ≠ g) (a b c : Value) : d.R e (((W.setCell ⟨g, 0, none⟩ a).setCell ⟨g, 1, none⟩ b).setCell ⟨g, 2, none⟩ c) base ok v xs := Kd.R_far (p := ⟨g, 2, none⟩) (Kd.R_far (p := ⟨g, 1, none⟩) (Kd.R_far (p := ⟨g, 0, none⟩) h hk a) hk b) hk c
theorem zU {w0 W w1 : World} {g : Nat} {o : Obj} (h : Aside0 (w0.heap[g]? = some o)) (hb : Below W.heap.size W w1) (f : w0.heap[g]? = some o → W.heap[g]? = some o := by intro h_; (repeat (with_reducible first | refine blk_drewN ?_ _ | refine blk_drew ?_ | refine blk_alloc ?_ _ | refine blk_far ?_ (Aside0.out (by assumption)) _)); exact h_) : w1.heap[g]? = some o := blk_below (f h.out) hb
theorem zW {w0 W w1 : World} {g : Nat} {o : Obj} {row : Option Nat} (h : Aside0 (w0.heap[g]? = some o)) (hg : W.grownBy w1 row) (hne : some g ≠ row) (f : w0.heap[g]? = some o → W.heap[g]? = some o := by intro h_; (repeat (with_reducible first | refine blk_drewN ?_ _ | refine blk_drew ?_ | refine blk_alloc ?_ _ | refine blk_far ?_ (Aside0.out (by assumption)) _)); exact h_) : w1.heap[g]? = some o := blk_grown (f h.out) hg hne
theorem zL {w0 W : World} {g : Nat} {o : Obj} (h : Aside0 (w0.heap[g]? = some o)) (f : w0.heap[g]? = some o → W.heap[g]? = some o := by intro h_; (repeat (with_reducible first | refine blk_drewN ?_ _ | refine blk_drew ?_ | refine blk_alloc ?_ _ | refine blk_far ?_ (Aside0.out (by assumption)) _)); exact h_) : g < W.heap.size := blk_lt (f h.out)
theorem zc2 {w : World} {g : Nat} {t : TypeId} {a b : Value} (h : Aside0 (w.heap[g]? = some (.cells #[a, b] t (0, 0)))) : w.cell? ⟨g, 0, none⟩ = some a ∧ w.cell? ⟨g, 1, none⟩ = some b ∧ w.frozen? ⟨g, 0, none⟩ = false ∧ w.frozen? ⟨g, 1, none⟩ = false := ⟨(blk_cell h.out 0).trans rfl, (blk_cell h.out 1).trans rfl, blk_frozen h.out 0, blk_frozen h.out 1⟩
theorem zc3 {w : World} {g : Nat} {t : TypeId} {a b c : Value} (h : Aside0 (w.heap[g]? = some (.cells #[a, b, c] t (0, 0)))) : w.cell? ⟨g, 0, none⟩ = some a ∧ w.cell? ⟨g, 1, none⟩ = some b ∧ w.cell? ⟨g, 2, none⟩ = some c ∧ w.frozen? ⟨g, 0, none⟩ = false ∧ w.frozen? ⟨g, 1, none⟩ = false ∧ w.frozen? ⟨g, 2, none⟩ = false := ⟨(blk_cell h.out 0).trans rfl, (blk_cell h.out 1).trans rfl, (blk_cell h.out 2).trans rfl, blk_frozen h.out 0, blk_frozen h.out 1, blk_frozen h.out 2⟩
theorem zO {a : Nat} {P : Prop} {w W : World} (h : Aside0 P) (hg : a = W.heap.size) (f : P → Below w.heap.size w W := by intro h_; repeat (first | (with_reducible first | exact h_ | apply below_alloc | apply pw_below_drewN | apply below_drew1 | refine below_set ?_ (Aside0.out (by assumption))) | exact h_)) : w.heap.size ≤ a := by rw [hg]; exact below_size (f h.out)
theorem zr {α β : Type} {d : Kd α} {d' : Kd β} {e e' : TypeId} {W0 W w1 w2 : World} {base : Nat} {ok ok' : Nat → Prop} {u v : Value} {xs : List α} {ys : List β} (hu : Aside0 (d.R e W0 base ok u xs)) (ho : d'.R e' w2 W.heap.size ok' v ys) (hb : Below W.heap.size W w1) (f : d.R e W0 base ok u xs → d.R e W base ok u xs := by intro h_; (with_reducible repeat (first | apply Kd.R_alloc | apply Kd.R_drewN | apply Kd.R_drew)); exact h_) : d.R e w1 base (fun k => ok k ∧ some k ≠ v.ownBlock) u xs := Kd.R_elder' (f hu.out) (Kd.R_base ho) hb
theorem zn {α β : Type} {d : Kd α} {d' : Kd β} {e e' : TypeId} {W0 W w1 : World} {base' : Nat} {ok ok' : Nat → Prop} {u v : Value} {xs : List α} {ys : List β} (h : d.R e w1 W.heap.size ok v xs) (g : Aside0 (d'.R e' W0 base' ok' u ys)) (f : d'.R e' W0 base' ok' u ys → d'.R e' W base' ok' u ys := by intro h_; (with_reducible repeat (first | apply Kd.R_alloc | apply Kd.R_drewN | apply Kd.R_drew)); exact h_) : d.R e w1 W.heap.size (fun k => ok k ∧ some k ≠ u.ownBlock) v xs := Kd.R_new' h (Kd.R_lt (f g.out))
theorem zput {w : World} {g : Nat} {t : TypeId} {cs cs' : Array Value} {i : Nat} {u : Value} (h : w.heap[g]? = some (.cells cs t (0, 0))) (e : cs.setIfInBounds i u = cs') : (w.setCell ⟨g, i, none⟩ u).heap[g]? = some (.cells cs' t (0, 0)) := blk_put h i u e
theorem zfar {w : World} {g : Nat} {t : TypeId} {cs : Array Value} {p : Addr} (hp : Aside0 (g ≠ p.block)) (h : w.heap[g]? = some (.cells cs t (0, 0))) (u : Value) : (w.setCell p u).heap[g]? = some (.cells cs t (0, 0)) := blk_far h hp.out u
theorem zP {P Q : Prop} (h : Aside0 P) (f : P → Q := by intro h_; (repeat (with_reducible first | refine blk_drewN ?_ _ | refine blk_drew ?_ | refine blk_alloc ?_ _ | (apply zfar; assumption) | apply zput)); exact h_; all_goals rfl) : Q := f h.out
theorem zm {w0 W : World} {g : Nat} {o : Obj} (h : Aside0 (w0.heap[g]? = some o)) (k : Nat) (hk : W.heap.size ≤ k) (f : w0.heap[g]? = some o → W.heap[g]? = some o := by intro h_; (repeat (with_reducible first | refine blk_drewN ?_ _ | refine blk_drew ?_ | refine blk_alloc ?_ _ | refine blk_far ?_ (Aside0.out (by assumption)) _)); exact h_) : k ≠ g := Kd.freshB (f h.out) k hk
theorem zg {P Q R : Prop} (h : Aside0 P) (b : Aside0 Q) (f : P → Q → R := by intro h_ b_; first | (with_reducible exact h_) | (refine Glob.below h_ ?_; repeat (first | (with_reducible first | exact b_ | apply below_alloc | apply pw_below_drewN | apply below_drew1 | refine below_set ?_ (Aside0.out (by assumption))) | exact b_)) | (refine Glob.drawn h_ ?_; repeat (first | exact Drawn0.refl _ | apply Drawn0.step))) : R := f h.out b.out
theorem zv {α : Type} {d : Kd α} {e e' : TypeId} {W0 W : World} {base base' : Nat} {ok ok' : Nat → Prop} {v : Value} {xs : List α} (h : Aside0 (Kd.V d e W0 base ok v xs)) (f : Kd.V d e W0 base ok v xs → Kd.V d e W base ok v xs := by intro h_; (with_reducible repeat (first | apply Kd.V_alloc | apply Kd.V_drewN | apply Kd.V_drew)); exact h_) (hp : ∀ k, ok k → ok' k := by intro k_ hk; (try simp only [and_assoc] at hk); (repeat (obtain ⟨_, hk⟩ := hk)); (repeat' apply And.intro) <;> (first | (with_reducible assumption) | assumption)) : Kd.V d e' W base' ok' v xs := Kd.V_mono (f h.out) hp
theorem zva {α : Type} {d : Kd α} {e : TypeId} {W0 W w1 : World} {base : Nat} {ok : Nat → Prop} {u v v1 : Value} {xs : List α} (h : Aside0 (Kd.V d e W0 base ok u xs)) (hg : W.grownBy w1 v.ownBlock) (hat : v1.ownBlock = v.ownBlock ∨ ∃ b, v1.ownBlock = some b ∧ W.heap.size ≤ b) (f : Kd.V d e W0 base ok u xs → Kd.V d e W base ok u xs := by intro h_; (with_reducible repeat (first | apply Kd.V_alloc | apply Kd.V_drewN | apply Kd.V_drew)); exact h_) (hp : ∀ k, ok k → some k ≠ v.ownBlock := by intro k_ hk; (try simp only [and_assoc] at hk); (repeat (obtain ⟨_, hk⟩ := hk)); (first | (with_reducible assumption) | assumption)) : Kd.V d e w1 base (fun k => ok k ∧ some k ≠ v1.ownBlock) u xs := Kd.V_afterv (ok := ok) (Kd.V_mono (f h.out) (fun k hk => ⟨hk, hp k hk⟩)) hg hat
theorem zp {P : Prop} (f : P := by intro k_ hk; (try simp only [and_assoc] at hk); (repeat (obtain ⟨_, hk⟩ := hk)); (repeat' apply And.intro) <;> (first | (with_reducible assumption) | assumption)) : P := f
abbrev zt : Bool := true
abbrev zu : Bool := false
theorem zfv {α : Type} {d : Kd α} {e : TypeId} {W : World} {base : Nat} {ok : Nat → Prop} {v : Value} {xs : List α} (h : Aside0 (Kd.V d e W base ok v xs)) (g : Nat) (a b : Value) (f : ∀ k, ok k → k ≠ g := by intro k_ hk; (try simp only [and_assoc] at hk); (repeat (obtain ⟨_, hk⟩ := hk)); (first | (with_reducible assumption) | assumption)) : Kd.V d e ((W.setCell ⟨g, 0, none⟩ a).setCell ⟨g, 1, none⟩ b) base ok v xs := Kd.V_far (p := ⟨g, 1, none⟩) (Kd.V_far (p := ⟨g, 0, none⟩) h.out f a) f b
theorem zfr {α : Type} {d : Kd α} {e t g : Nat} {W : World} {base : Nat} {ok : Nat → Prop} {v : Value} {xs : List α} {cs : Array Value} (h : Aside0 (d.R e W base ok v xs)) (hb : Aside0 (W.heap[g]? = some (.cells cs t (0, 0)))) (a b : Value) (ht : ∀ q, q ∈ e :: d.E → q ≠ t := by decide) : d.R e ((W.setCell ⟨g, 0, none⟩ a).setCell ⟨g, 1, none⟩ b) base ok v xs := Kd.R_mono (Kd.R_far (p := ⟨g, 1, none⟩) (Kd.R_far (p := ⟨g, 0, none⟩) (Kd.R_types h.out hb.out ht) (fun _ hk => hk.2) a) (fun _ hk => hk.2) b) (fun _ h_ => h_.1)
theorem zfg {α : Type} {d : Kd α} {e e' : TypeId} {W0 W : World} {base base' : Nat} {ok ok' : Nat → Prop} {v : Value} {xs : List α} (h : Aside0 (Kd.V d e W0 base ok v xs)) (g : Nat) (i : Int) (a : Value) (f : Kd.V d e ((W0.setCell ⟨g, i.toNat, none⟩ a)) base ok v xs → Kd.V d e W base ok v xs := by intro h_; (with_reducible repeat (first | apply Kd.V_alloc | apply Kd.V_drewN | apply Kd.V_drew)); exact h_) (hg : ∀ k, ok k → k ≠ g := by intro k_ hk e_; subst e_; (try simp only [and_assoc] at hk); (repeat (obtain ⟨_, hk⟩ := hk)); exact (by assumption : some k_ ≠ (Value.slice (some ⟨k_, 0, none⟩) _ _).ownBlock) rfl) (hp : ∀ k, ok k → ok' k := by intro k_ hk; (try simp only [and_assoc] at hk); (repeat (obtain ⟨_, hk⟩ := hk)); (repeat' apply And.intro) <;> (first | (with_reducible assumption) | assumption)) : Kd.V d e' W base' ok' v xs := Kd.V_mono (f (Kd.V_far (p := ⟨g, i.toNat, none⟩) h.out hg a)) hp
theorem zfw {α : Type} {d : Kd α} {e e' : TypeId} {W0 W : World} {base base' : Nat} {ok ok' : Nat → Prop} {v : Value} {xs : List α} (h : Aside0 (Kd.V d e W0 base ok v xs)) (g : Nat) (a b : Value) (f : Kd.V d e ((W0.setCell ⟨g, 0, none⟩ a).setCell ⟨g, 1, none⟩ b) base ok v xs → Kd.V d e W base ok v xs := by intro h_; (with_reducible repeat (first | apply Kd.V_alloc | apply Kd.V_drewN | apply Kd.V_drew)); exact h_) (hg : ∀ k, ok k → k ≠ g := by intro k_ hk; (try simp only [and_assoc] at hk); (repeat (obtain ⟨_, hk⟩ := hk)); (first | (with_reducible assumption) | assumption)) (hp : ∀ k, ok k → ok' k := by intro k_ hk; (try simp only [and_assoc] at hk); (repeat (obtain ⟨_, hk⟩ := hk)); (repeat' apply And.intro) <;> (first | (with_reducible assumption) | assumption)) : Kd.V d e' W base' ok' v xs := Kd.V_mono (f (Kd.V_far (p := ⟨g, 1, none⟩) (Kd.V_far (p := ⟨g, 0, none⟩) h.out hg a) hg b)) hp
theorem zno {Q : Prop} (f : Q := by first | (simp only [putAll, Act.put, List.setIfInBounds_toArray, List.set_cons_zero, List.set_cons_succ]; done) | (simp only [putAll, Act.put, List.setIfInBounds_toArray, List.set_cons_zero, List.set_cons_succ]; rfl)) : Q := f
theorem zrt {α : Type} {d : Kd α} {e : TypeId} {W : World} {base g n c : Nat} {ok : Nat → Prop} {xs : List α} (h : Aside0 (d.R e W base ok (.slice (some ⟨g, 0, none⟩) n c) xs)) : ∃ cells, W.heap[g]? = some (.cells cells e (0, 0)) := by
  obtain ⟨_, inner, ho, _⟩ := h.out
  exact own_typed ho g (by simp [Value.ownBlock])
end Go.Proofs.YtekjfodfedpioaaDoor.F
end
section
namespace Go.Proofs.YtekjfodfedpioaaDoor.F
open Go.RowKit Go.Proofs.YtekjfodfedpioaaDoorW.PrintWords Go.Proofs.YtekjfodfedpioaaDoorW.PrintLast Go.Proofs.YtekjfodfedpioaaDoorW.PrintMore
attribute [local go_sem] max2_int min2_int max_two min_two max_three min_three max_four min_four cell_setCell_isSome
set_option linter.unusedVariables false
set_option linter.unusedSimpArgs false
open Kd
def epitomelaw09_spans.l0 : Nat → ByteArray → List (S55) → Int → Option ((List (S55)))
  | 0, _, _, _ => none
  | k + 1, x0, x3, x4 => if (wrap64 (x4 + 1)) < (x0.size : Int) then (if 0 ≤ (wrap64 (x4 + 1)) then (if 0 ≤ x4 then (if x4 < (x0.size : Int) then (if (bt x0 x4) = 107 then (if x3.length < 4398046511104 then (epitomelaw09_spans.l0 k x0 (x3 ++ [(⟨1, ((bt x0 (wrap64 (x4 + 1))) - 48) % 256, (⟨#[]⟩ : ByteArray)⟩ : S55)]) (wrap64 (x4 + 2))) else (none)) else (if (bt x0 x4) = 100 then (if x3.length < 4398046511104 then (epitomelaw09_spans.l0 k x0 (x3 ++ [(⟨3, ((bt x0 (wrap64 (x4 + 1))) - 48) % 256, (⟨#[]⟩ : ByteArray)⟩ : S55)]) (wrap64 (x4 + 2))) else (none)) else (if x3.length < 4398046511104 then (epitomelaw09_spans.l0 k x0 (x3 ++ [(⟨2, 0, (⟨#[120]⟩ : ByteArray)⟩ : S55)]) (wrap64 (x4 + 2))) else (none)))) else (none)) else (none)) else (none)) else (some x3)
def epitomelaw09_spans.f (k : Nat) (a0 : ByteArray) : Option ((List (S55))) := epitomelaw09_spans.l0 k a0 (([] : List (S55))) 0
theorem epitomelaw09_spans.mono_l : ∀ k, (∀ y0 y1 y2, LeO (epitomelaw09_spans.l0 k y0 y1 y2) (epitomelaw09_spans.l0 (k + 1) y0 y1 y2))
  | 0 => fun _ _ _ r h => by simp [epitomelaw09_spans.l0] at h
  | k + 1 => by
    have ih0 := epitomelaw09_spans.mono_l k
    · intro y0 y1 y2
      unfold epitomelaw09_spans.l0
      repeat' first
      | (with_reducible exact ih0 _ _ _)
      | (with_reducible exact LeO.refl _)
      | (with_reducible exact LeO.none _)
      | (with_reducible refine LeO.ite ?_ ?_)
      | (with_reducible refine LeO.bind ?_ (fun _ => ?_))
      | exact ih0 _ _ _
      | exact LeO.none _
      | refine LeO.ite ?_ ?_
      | refine LeO.bind ?_ (fun _ => ?_)
theorem epitomelaw09_spans.mono : ∀ a0 k, LeO (epitomelaw09_spans.f k a0) (epitomelaw09_spans.f (k + 1) a0) := by
  intro a0 k
  have ih0 := epitomelaw09_spans.mono_l k
  unfold epitomelaw09_spans.f
  repeat' first
      | (with_reducible exact ih0 _ _ _)
      | (with_reducible exact LeO.refl _)
      | (with_reducible exact LeO.none _)
      | (with_reducible refine LeO.ite ?_ ?_)
      | (with_reducible refine LeO.bind ?_ (fun _ => ?_))
      | exact ih0 _ _ _
      | exact LeO.none _
      | refine LeO.ite ?_ ?_
      | refine LeO.bind ?_ (fun _ => ?_)
set_option maxHeartbeats 40000000 in
set_option maxRecDepth 100000 in
theorem epitomelaw09_spans.calls (k : Nat) (a0 : ByteArray) (r : List (S55)) (w : World) (h : epitomelaw09_spans.f k a0 = some r) :
  Calls Tryd.prog 35 #[.string a0] w fun e w' => ∃ v0_ : Value, e = .returned (v0_) ∧ Kd.R k55 55 w' w.heap.size (fun _ => True) v0_ r ∧ Below w.heap.size w w' := by
 have hu55 := Tryd.underlying55
 have HB := Am (Below.refl w.heap.size w)
 have H : (epitomelaw09_spans.l0 k a0 (([] : List (S55))) 0) = some r := h
 clear h;obtain ⟨y101, hy101⟩ : ∃ y_ : List (S55), y_ = (([] : List (S55))) := ⟨_, rfl⟩
 replace H : (epitomelaw09_spans.l0 k a0 y101 0) = some r := by first | (rw [hy101]; with_reducible exact H) | (have H2_ := (Option.bind_some _ _).symm.trans H; rw [hy101]; with_reducible exact H2_) | (have H2_ := (Option.bind_some _ _).symm.trans H; with_reducible exact H2_) | with_reducible exact H | (rw [hy101]; exact H) | exact H
 have Ny101 := Am hy101;clear hy101;have H' := Am H
 clear H;go_enter Tryd.func35, Tryd.ntmps35
 go_wp2_with (first | ((with_reducible refine gate_dst (N := 6) rfl ?_); refine R_lit k55 _ 55 ?hg (N := 6) ?hd (xs := ([] : List (S55))) (inner := []) (ok := fun _ => True) (okp := fun _ => True) ?hr ?hp (fun _ hk => hk) trivial (Below.refl _ _) (Nat.le_refl _) (by simp) ?_; (case hd => rfl); (case hg => rfl); (case hr => first | (go_simp; done) | (go_simp; rfl)); (case hp => exact (Reps.none _ _)); intro v102 w2 ho3 hb hg_ hnew_; clear hg_ hnew_; (first | rw [← Ny101.out] at ho3 | (simp only [Int.reduceToNat] at ho3; rw [← Ny101.out] at ho3)); have HO103 := Am (R_lower ho3 (below_size (zB HB)));replace HB := Am (below_step (zB HB) hb); clear hb ho3))
 go_loopg [3, 4] k (fun kq v3 v4 w' => ∃ (x3_1 : List (S55)) (x4_1 : Int), v4 = .int .i64 x4_1 ∧ Aside0 (epitomelaw09_spans.l0 kq a0 x3_1 x4_1 = some r) ∧ Aside0 (kq ≤ k) ∧ Aside0 (Kd.R k55 55 w' w.heap.size (fun _ => True) v3 x3_1) ∧ Aside0 (Below w.heap.size w w'))
 case atStart => exact ⟨(y101), (0), zG, H', ⟨Nat.le_refl _⟩, ⟨(zR HO103)⟩, ⟨(zB HB)⟩⟩
 case round =>
  clear H';(try clear p2);(try clear c3);obtain ⟨x3_1, x4_1, rfl, HA, HK1, HO_3, HB⟩ := hrel
  cases gk with
  | zero => exact absurd HA.out (by simp [epitomelaw09_spans.l0])
  | succ k1 =>
   have H := HA.out;clear HA;simp only [epitomelaw09_spans.l0] at H
   by_cases c4 : (wrap64 (x4_1 + 1)) < (a0.size : Int)
   ·rw [if_pos c4] at H;have c4b0 : decide ((wrap64 (x4_1 + 1)) < (a0.size : Int)) = true := decide_eq_true c4
    clear c4;obtain ⟨ji5, hji5⟩ : ∃ j_ : Int, (wrap64 (x4_1 + 1)) = j_ := ⟨_, rfl⟩
    replace H : (if 0 ≤ (ji5) then (if 0 ≤ x4_1 then (if x4_1 < (a0.size : Int) then (if (bt a0 x4_1) = 107 then (if x3_1.length < 4398046511104 then (epitomelaw09_spans.l0 k1 a0 (x3_1 ++ [(⟨1, ((bt a0 (ji5)) - 48) % 256, (⟨#[]⟩ : ByteArray)⟩ : S55)]) (wrap64 (x4_1 + 2))) else (none)) else (if (bt a0 x4_1) = 100 then (if x3_1.length < 4398046511104 then (epitomelaw09_spans.l0 k1 a0 (x3_1 ++ [(⟨3, ((bt a0 (ji5)) - 48) % 256, (⟨#[]⟩ : ByteArray)⟩ : S55)]) (wrap64 (x4_1 + 2))) else (none)) else (if x3_1.length < 4398046511104 then (epitomelaw09_spans.l0 k1 a0 (x3_1 ++ [(⟨2, 0, (⟨#[120]⟩ : ByteArray)⟩ : S55)]) (wrap64 (x4_1 + 2))) else (none)))) else (none)) else (none)) else (none)) = some r := by first | (rw [hji5] at H; exact H) | (simp only [hji5] at H ⊢; exact H)
    (try rw [hji5] at c4b0)
    have hji5w : (IntKind.i64.wrap (x4_1 + 1)) = ji5 := (i64_w _).trans hji5
    by_cases c6 : 0 ≤ (ji5)
    ·rw [if_pos c6] at H;have c6b0 : decide (0 ≤ (ji5)) = true := decide_eq_true c6
     clear c6;by_cases c8 : 0 ≤ x4_1
     ·rw [if_pos c8] at H;have c8b0 : decide (0 ≤ x4_1) = true := decide_eq_true c8
      clear c8;by_cases c9 : x4_1 < (a0.size : Int)
      ·rw [if_pos c9] at H;have c9b0 : decide (x4_1 < (a0.size : Int)) = true := decide_eq_true c9
       clear c9;by_cases c11 : (bt a0 x4_1) = 107
       ·rw [if_pos c11] at H;have c11b0 : ((bt a0 x4_1) == 107) = true := beq_iff_eq.mpr c11
        have c11b1 : ((bt a0 x4_1) != 107) = false := bne_eq_false_iff_eq.mpr c11
        clear c11;by_cases c12 : x3_1.length < 4398046511104
        ·rw [if_pos c12] at H;have LMc12 := Am c12;clear c12;obtain ⟨y104, hy104⟩ : ∃ y_ : List (S55), y_ = (x3_1 ++ [(⟨1, ((bt a0 (ji5)) - 48) % 256, (⟨#[]⟩ : ByteArray)⟩ : S55)]) := ⟨_, rfl⟩
         replace H : (epitomelaw09_spans.l0 k1 a0 y104 (wrap64 (x4_1 + 2))) = some r := by first | (rw [hy104]; with_reducible exact H) | (have H2_ := (Option.bind_some _ _).symm.trans H; rw [hy104]; with_reducible exact H2_) | (have H2_ := (Option.bind_some _ _).symm.trans H; with_reducible exact H2_) | with_reducible exact H | (rw [hy104]; exact H) | exact H
         have Ny104 := Am hy104;clear hy104;have H' := Am H
         clear H;have p7 : 0 ≤ ((ji5) : Int) := of_decide_eq_true (by assumption)
         have q7 : (ji5) < (a0.size : Int) := of_decide_eq_true (by assumption)
         have hx7 := bt_at a0 (ji5)
         replace p7 := eq_true p7;replace q7 := eq_true q7;have p10 : 0 ≤ (x4_1 : Int) := of_decide_eq_true (by assumption)
         have q10 : x4_1 < (a0.size : Int) := of_decide_eq_true (by assumption)
         have hx10 := bt_at a0 x4_1
         replace p10 := eq_true p10;replace q10 := eq_true q10;go_wp2_with (first | ((with_reducible refine gate_builtin (b := .append) (xs := #[.tmp 29, .tmp 32]) rfl ?_); at_builtin; refine R_append k55 (w0 := w) w.heap.size rfl (.tmp 29) (.tmp 32) 22 55 (.agg #[(.int .i64 0), (.int .i64 0), (.string ⟨#[]⟩)]) 32 rfl Tryd.underlying22 info55 rfl (by decide) (by omega) u3 x3_1 (⟨1, ((bt a0 (ji5)) - 48) % 256, (⟨#[]⟩ : ByteArray)⟩ : S55) [.int .i64 1, .int .i64 (((bt a0 (ji5)) - 48) % 256), .string (⟨#[]⟩ : ByteArray)] (fun _ => True) (fun _ => False) rfl rfl ?aP (fun _ hk => hk.elim) ?aF ?aO ?aB ?aS ?aL ?_; (case aP => exact k55_mkM _ _ _ (⟨1, ((bt a0 (ji5)) - 48) % 256, (⟨#[]⟩ : ByteArray)⟩ : S55)); (case aB => exact (zB HB)); (case aF => exact (fun _ _ => trivial)); (case aO => exact (zR HO_3)); (case aS => exact (below_size (zB HB))); (case aL => have := LMc12.out; omega); intro v105 w13 ho hb hg hat; rw [← Ny104.out] at ho; replace HB := Am (hb);have HO106 := Am (ho);clear HO_3; clear ho hb hg hat))
         go_roundg k1
         case measure => have := HK1.out; omega
         case rel => exact ⟨(y104), (wrap64 (x4_1 + 2)), zG, H', ⟨by have := HK1.out; omega⟩, ⟨(zR HO106)⟩, ⟨(zB HB)⟩⟩
        ·rw [if_neg c12] at H;exact absurd H (by simp)
       ·rw [if_neg c11] at H;have c11b0 : ((bt a0 x4_1) == 107) = false := beq_eq_false_iff_ne.mpr c11
        have c11b1 : ((bt a0 x4_1) != 107) = true := bne_iff_ne.mpr c11
        by_cases c14 : (bt a0 x4_1) = 100
        ·rw [if_pos c14] at H;have c14b0 : ((bt a0 x4_1) == 100) = true := beq_iff_eq.mpr c14
         have c14b1 : ((bt a0 x4_1) != 100) = false := bne_eq_false_iff_eq.mpr c14
         clear c14;by_cases c15 : x3_1.length < 4398046511104
         ·rw [if_pos c15] at H;have LMc15 := Am c15;clear c15;obtain ⟨y107, hy107⟩ : ∃ y_ : List (S55), y_ = (x3_1 ++ [(⟨3, ((bt a0 (ji5)) - 48) % 256, (⟨#[]⟩ : ByteArray)⟩ : S55)]) := ⟨_, rfl⟩
          replace H : (epitomelaw09_spans.l0 k1 a0 y107 (wrap64 (x4_1 + 2))) = some r := by first | (rw [hy107]; with_reducible exact H) | (have H2_ := (Option.bind_some _ _).symm.trans H; rw [hy107]; with_reducible exact H2_) | (have H2_ := (Option.bind_some _ _).symm.trans H; with_reducible exact H2_) | with_reducible exact H | (rw [hy107]; exact H) | exact H
          have Ny107 := Am hy107;clear hy107;have H' := Am H
          clear H;have p7 : 0 ≤ ((ji5) : Int) := of_decide_eq_true (by assumption)
          have q7 : (ji5) < (a0.size : Int) := of_decide_eq_true (by assumption)
          have hx7 := bt_at a0 (ji5)
          replace p7 := eq_true p7;replace q7 := eq_true q7;have p10 : 0 ≤ (x4_1 : Int) := of_decide_eq_true (by assumption)
          have q10 : x4_1 < (a0.size : Int) := of_decide_eq_true (by assumption)
          have hx10 := bt_at a0 x4_1
          replace p10 := eq_true p10;replace q10 := eq_true q10;go_wp2_with (first | ((with_reducible refine gate_builtin (b := .append) (xs := #[.tmp 36, .tmp 39]) rfl ?_); at_builtin; refine R_append k55 (w0 := w) w.heap.size rfl (.tmp 36) (.tmp 39) 22 55 (.agg #[(.int .i64 0), (.int .i64 0), (.string ⟨#[]⟩)]) 32 rfl Tryd.underlying22 info55 rfl (by decide) (by omega) u3 x3_1 (⟨3, ((bt a0 (ji5)) - 48) % 256, (⟨#[]⟩ : ByteArray)⟩ : S55) [.int .i64 3, .int .i64 (((bt a0 (ji5)) - 48) % 256), .string (⟨#[]⟩ : ByteArray)] (fun _ => True) (fun _ => False) rfl rfl ?aP (fun _ hk => hk.elim) ?aF ?aO ?aB ?aS ?aL ?_; (case aP => exact k55_mkM _ _ _ (⟨3, ((bt a0 (ji5)) - 48) % 256, (⟨#[]⟩ : ByteArray)⟩ : S55)); (case aB => exact (zB HB)); (case aF => exact (fun _ _ => trivial)); (case aO => exact (zR HO_3)); (case aS => exact (below_size (zB HB))); (case aL => have := LMc15.out; omega); intro v108 w16 ho hb hg hat; rw [← Ny107.out] at ho; replace HB := Am (hb);have HO109 := Am (ho);clear HO_3; clear ho hb hg hat))
          go_roundg k1
          case measure => have := HK1.out; omega
          case rel => exact ⟨(y107), (wrap64 (x4_1 + 2)), zG, H', ⟨by have := HK1.out; omega⟩, ⟨(zR HO109)⟩, ⟨(zB HB)⟩⟩
         ·rw [if_neg c15] at H;exact absurd H (by simp)
        ·rw [if_neg c14] at H;have c14b0 : ((bt a0 x4_1) == 100) = false := beq_eq_false_iff_ne.mpr c14
         have c14b1 : ((bt a0 x4_1) != 100) = true := bne_iff_ne.mpr c14
         by_cases c17 : x3_1.length < 4398046511104
         ·rw [if_pos c17] at H;have LMc17 := Am c17;clear c17;obtain ⟨y110, hy110⟩ : ∃ y_ : List (S55), y_ = (x3_1 ++ [(⟨2, 0, (⟨#[120]⟩ : ByteArray)⟩ : S55)]) := ⟨_, rfl⟩
          replace H : (epitomelaw09_spans.l0 k1 a0 y110 (wrap64 (x4_1 + 2))) = some r := by first | (rw [hy110]; with_reducible exact H) | (have H2_ := (Option.bind_some _ _).symm.trans H; rw [hy110]; with_reducible exact H2_) | (have H2_ := (Option.bind_some _ _).symm.trans H; with_reducible exact H2_) | with_reducible exact H | (rw [hy110]; exact H) | exact H
          have Ny110 := Am hy110;clear hy110;have H' := Am H
          clear H;have p7 : 0 ≤ ((ji5) : Int) := of_decide_eq_true (by assumption)
          have q7 : (ji5) < (a0.size : Int) := of_decide_eq_true (by assumption)
          have hx7 := bt_at a0 (ji5)
          replace p7 := eq_true p7;replace q7 := eq_true q7;have p10 : 0 ≤ (x4_1 : Int) := of_decide_eq_true (by assumption)
          have q10 : x4_1 < (a0.size : Int) := of_decide_eq_true (by assumption)
          have hx10 := bt_at a0 x4_1
          replace p10 := eq_true p10;replace q10 := eq_true q10;go_wp2_with (first | ((with_reducible refine gate_builtin (b := .append) (xs := #[.tmp 23, .tmp 25]) rfl ?_); at_builtin; refine R_append k55 (w0 := w) w.heap.size rfl (.tmp 23) (.tmp 25) 22 55 (.agg #[(.int .i64 0), (.int .i64 0), (.string ⟨#[]⟩)]) 32 rfl Tryd.underlying22 info55 rfl (by decide) (by omega) u3 x3_1 (⟨2, 0, (⟨#[120]⟩ : ByteArray)⟩ : S55) [.int .i64 2, .int .i64 0, .string (⟨#[120]⟩ : ByteArray)] (fun _ => True) (fun _ => False) rfl rfl ?aP (fun _ hk => hk.elim) ?aF ?aO ?aB ?aS ?aL ?_; (case aP => exact k55_mkM _ _ _ (⟨2, 0, (⟨#[120]⟩ : ByteArray)⟩ : S55)); (case aB => exact (zB HB)); (case aF => exact (fun _ _ => trivial)); (case aO => exact (zR HO_3)); (case aS => exact (below_size (zB HB))); (case aL => have := LMc17.out; omega); intro v111 w18 ho hb hg hat; rw [← Ny110.out] at ho; replace HB := Am (hb);have HO112 := Am (ho);clear HO_3; clear ho hb hg hat))
          go_roundg k1
          case measure => have := HK1.out; omega
          case rel => exact ⟨(y110), (wrap64 (x4_1 + 2)), zG, H', ⟨by have := HK1.out; omega⟩, ⟨(zR HO112)⟩, ⟨(zB HB)⟩⟩
         ·rw [if_neg c17] at H;exact absurd H (by simp)
      ·rw [if_neg c9] at H;exact absurd H (by simp)
     ·rw [if_neg c8] at H;exact absurd H (by simp)
    ·rw [if_neg c6] at H;exact absurd H (by simp)
   ·rw [if_neg c4] at H;have c4b0 : decide ((wrap64 (x4_1 + 1)) < (a0.size : Int)) = false := decide_eq_false c4
    clear c4;obtain rfl := Option.some.inj H;go_wp2
    go_ret
    exact ⟨_, zF, (zR HO_3), (zB HB)⟩
end Go.Proofs.YtekjfodfedpioaaDoor.F
end
section
namespace Go.Proofs.YtekjfodfedpioaaDoor.F
open Go.RowKit Go.Proofs.YtekjfodfedpioaaDoorW.PrintWords Go.Proofs.YtekjfodfedpioaaDoorW.PrintLast Go.Proofs.YtekjfodfedpioaaDoorW.PrintMore
attribute [local go_sem] max2_int min2_int max_two min_two max_three min_three max_four min_four cell_setCell_isSome
set_option linter.unusedVariables false
set_option linter.unusedSimpArgs false
theorem eqA55 (d : Nat) (w : World) (x0 y0 : Int) (x1 y1 : Int) (x2 y2 : ByteArray) :
    (Op.equalIn (d + 2) 55 (.agg #[.int .i64 x0, .int .i64 x1, .string x2]) (.agg #[.int .i64 y0, .int .i64 y1, .string y2])).run Tryd.prog w = .ok (x0 == y0 && (x1 == y1 && (x2.toList == y2.toList))) w := by
  refine eqA_of Tryd.underlying55 (by kernel_rfl) ?_
  refine eqf_cons (by rfl) (by go_simp; rfl) (by go_simp; rfl) (by go_simp) ?_
  refine eqf_cons (by rfl) (by go_simp; rfl) (by go_simp; rfl) (by go_simp) ?_
  exact eqf_last (by rfl) (by go_simp; rfl) (by go_simp; rfl) (by go_simp)
end Go.Proofs.YtekjfodfedpioaaDoor.F
end
section
namespace Go.Proofs.YtekjfodfedpioaaDoor.F
open Go.RowKit Go.Proofs.YtekjfodfedpioaaDoorW.PrintWords Go.Proofs.YtekjfodfedpioaaDoorW.PrintLast Go.Proofs.YtekjfodfedpioaaDoorW.PrintMore
attribute [local go_sem] max2_int min2_int max_two min_two max_three min_three max_four min_four cell_setCell_isSome
set_option linter.unusedVariables false
set_option linter.unusedSimpArgs false
open Kd
attribute [local go_sem high] eqA55
def epitomeref04_Same.l0 : Nat → List (S55) → List (S55) → Int → Option (Bool)
  | 0, _, _, _ => none
  | k + 1, x0, x1, x5 => if x5 < (x0.length : Int) then (if 0 ≤ x5 then (if x5 < (x1.length : Int) then (if (!(((rd_T55 x0 x5).f0) == ((rd_T55 x1 x5).f0)) || (!(((rd_T55 x0 x5).f1) == ((rd_T55 x1 x5).f1)) || (!((((rd_T55 x0 x5).f2).toList) == (((rd_T55 x1 x5).f2).toList))))) = true then (some false) else (epitomeref04_Same.l0 k x0 x1 (wrap64 (x5 + 1)))) else (none)) else (none)) else (some true)
def epitomeref04_Same.f (k : Nat) (l0 : List (S55)) (l1 : List (S55)) : Option (Bool) := if (l0.length : Int) = (l1.length : Int) then (epitomeref04_Same.l0 k l0 l1 0) else (some false)
theorem epitomeref04_Same.mono_l : ∀ k, (∀ y0 y1 y2, LeO (epitomeref04_Same.l0 k y0 y1 y2) (epitomeref04_Same.l0 (k + 1) y0 y1 y2))
  | 0 => fun _ _ _ r h => by simp [epitomeref04_Same.l0] at h
  | k + 1 => by
    have ih0 := epitomeref04_Same.mono_l k
    · intro y0 y1 y2
      unfold epitomeref04_Same.l0
      repeat' first
      | (with_reducible exact ih0 _ _ _)
      | (with_reducible exact LeO.refl _)
      | (with_reducible exact LeO.none _)
      | (with_reducible refine LeO.ite ?_ ?_)
      | (with_reducible refine LeO.bind ?_ (fun _ => ?_))
      | exact ih0 _ _ _
      | exact LeO.none _
      | refine LeO.ite ?_ ?_
      | refine LeO.bind ?_ (fun _ => ?_)
theorem epitomeref04_Same.mono : ∀ a0 a1 k, LeO (epitomeref04_Same.f k a0 a1) (epitomeref04_Same.f (k + 1) a0 a1) := by
  intro a0 a1 k
  have ih0 := epitomeref04_Same.mono_l k
  unfold epitomeref04_Same.f
  repeat' first
      | (with_reducible exact ih0 _ _ _)
      | (with_reducible exact LeO.refl _)
      | (with_reducible exact LeO.none _)
      | (with_reducible refine LeO.ite ?_ ?_)
      | (with_reducible refine LeO.bind ?_ (fun _ => ?_))
      | exact ih0 _ _ _
      | exact LeO.none _
      | refine LeO.ite ?_ ?_
      | refine LeO.bind ?_ (fun _ => ?_)
set_option maxHeartbeats 40000000 in
set_option maxRecDepth 100000 in
theorem epitomeref04_Same.calls (k : Nat) (A0 : Option Addr) (c0 : Nat) (l0 : List (S55)) (A1 : Option Addr) (c1 : Nat) (l1 : List (S55)) (r : Bool) (w : World) (hr0 : Kd.C k55 w A0 l0.length l0) (hc0 : l0.length ≤ c0) (hr1 : Kd.C k55 w A1 l1.length l1) (hc1 : l1.length ≤ c1) (h : epitomeref04_Same.f k l0 l1 = some r) :
  Calls Tryd.prog 20 #[.slice A0 l0.length c0, .slice A1 l1.length c1] w fun e w' => e = .returned (.bool r) ∧ Drawn0 w w' := by
 have hu55 := Tryd.underlying55
 have HR0 := Am hr0;have HC0 := Am hc0;clear hr0 hc0;have HR1 := Am hr1;have HC1 := Am hc1;clear hr1 hc1;have H : (if (l0.length : Int) = (l1.length : Int) then (epitomeref04_Same.l0 k l0 l1 0) else (some false)) = some r := h
 clear h;by_cases c3 : (l0.length : Int) = (l1.length : Int)
 ·rw [if_pos c3] at H;have c3b0 : ((l0.length : Int) == (l1.length : Int)) = true := beq_iff_eq.mpr c3
  have c3b1 : ((l0.length : Int) != (l1.length : Int)) = false := bne_eq_false_iff_eq.mpr c3
  have c3b2 : (l0.length == l1.length) = true := by first | simpa using c3 | (simp at c3 ⊢; omega)
  clear c3;have H' := Am H
  clear H;go_enter Tryd.func20, Tryd.ntmps20
  go_wp2
  repeat (go_quiet (fail); try go_wp2)
  go_loopg [5] k (fun kq v5 w' => ∃ (x5_1 : Int), v5 = .int .i64 x5_1 ∧ Aside0 (epitomeref04_Same.l0 kq l0 l1 x5_1 = some r) ∧ Aside0 (kq ≤ k) ∧ Drawn0 w w')
  case atStart => exact ⟨(0), zG, H', ⟨Nat.le_refl _⟩, zD⟩
  case round =>
   clear H';(try clear c1);(try clear c2);(try clear p2);(try clear c3);(try clear c3b0);(try clear c3b1);(try clear c3b2);obtain ⟨x5_1, rfl, HA, HK1, ⟨m1, rfl⟩⟩ := hrel
   cases gk with
   | zero => exact absurd HA.out (by simp [epitomeref04_Same.l0])
   | succ k1 =>
    have H := HA.out;clear HA;simp only [epitomeref04_Same.l0] at H
    by_cases c4 : x5_1 < (l0.length : Int)
    ·rw [if_pos c4] at H;have c4b0 : decide (x5_1 < (l0.length : Int)) = true := decide_eq_true c4
     clear c4;by_cases c5 : 0 ≤ x5_1
     ·rw [if_pos c5] at H;have c5b0 : decide (0 ≤ x5_1) = true := decide_eq_true c5
      clear c5;by_cases c6 : x5_1 < (l1.length : Int)
      ·rw [if_pos c6] at H;have c6b0 : decide (x5_1 < (l1.length : Int)) = true := decide_eq_true c6
       clear c6;by_cases c7 : (!(((rd_T55 l0 x5_1).f0) == ((rd_T55 l1 x5_1).f0)) || (!(((rd_T55 l0 x5_1).f1) == ((rd_T55 l1 x5_1).f1)) || (!((((rd_T55 l0 x5_1).f2).toList) == (((rd_T55 l1 x5_1).f2).toList))))) = true
       ·rw [if_pos c7] at H;have c7b0 : (!(((rd_T55 l0 x5_1).f0) == ((rd_T55 l1 x5_1).f0)) || (!(((rd_T55 l0 x5_1).f1) == ((rd_T55 l1 x5_1).f1)) || (!((((rd_T55 l0 x5_1).f2).toList) == (((rd_T55 l1 x5_1).f2).toList))))) = true := c7
        clear c7;obtain rfl := Option.some.inj H;have p101 : 0 ≤ (x5_1 : Int) := of_decide_eq_true (by assumption)
        have q101 : x5_1 < (l0.length : Int) := of_decide_eq_true (by assumption)
        obtain ⟨ad101, e101, hx101_0, hx101_1, hx101_2⟩ := at_T55 HR0.out x5_1 p101 q101
        cases e101
        replace p101 := eq_true p101;replace q101 := eq_true q101;have p102 : 0 ≤ (x5_1 : Int) := of_decide_eq_true (by assumption)
        have q102 : x5_1 < (l1.length : Int) := of_decide_eq_true (by assumption)
        obtain ⟨ad102, e102, hx102_0, hx102_1, hx102_2⟩ := at_T55 HR1.out x5_1 p102 q102
        cases e102
        replace p102 := eq_true p102;replace q102 := eq_true q102;go_wp2
        repeat (go_quiet (fail); try go_wp2)
        go_ret
        exact ⟨zG, zD⟩
       ·rw [if_neg c7] at H;have c7b0 : (!(((rd_T55 l0 x5_1).f0) == ((rd_T55 l1 x5_1).f0)) || (!(((rd_T55 l0 x5_1).f1) == ((rd_T55 l1 x5_1).f1)) || (!((((rd_T55 l0 x5_1).f2).toList) == (((rd_T55 l1 x5_1).f2).toList))))) = false := by simpa using c7
        clear c7;have H' := Am H
        clear H;have p101 : 0 ≤ (x5_1 : Int) := of_decide_eq_true (by assumption)
        have q101 : x5_1 < (l0.length : Int) := of_decide_eq_true (by assumption)
        obtain ⟨ad101, e101, hx101_0, hx101_1, hx101_2⟩ := at_T55 HR0.out x5_1 p101 q101
        cases e101
        replace p101 := eq_true p101;replace q101 := eq_true q101;have p102 : 0 ≤ (x5_1 : Int) := of_decide_eq_true (by assumption)
        have q102 : x5_1 < (l1.length : Int) := of_decide_eq_true (by assumption)
        obtain ⟨ad102, e102, hx102_0, hx102_1, hx102_2⟩ := at_T55 HR1.out x5_1 p102 q102
        cases e102
        replace p102 := eq_true p102;replace q102 := eq_true q102;go_wp2
        repeat (go_quiet (fail); try go_wp2)
        go_roundg k1
        case measure => have := HK1.out; omega
        case rel => exact ⟨(wrap64 (x5_1 + 1)), zG, H', ⟨by have := HK1.out; omega⟩, zD⟩
      ·rw [if_neg c6] at H;exact absurd H (by simp)
     ·rw [if_neg c5] at H;exact absurd H (by simp)
    ·rw [if_neg c4] at H;have c4b0 : decide (x5_1 < (l0.length : Int)) = false := decide_eq_false c4
     clear c4;obtain rfl := Option.some.inj H;go_wp2
     repeat (go_quiet (fail); try go_wp2)
     go_ret
     exact ⟨zG, zD⟩
 ·rw [if_neg c3] at H;have c3b0 : ((l0.length : Int) == (l1.length : Int)) = false := beq_eq_false_iff_ne.mpr c3
  have c3b1 : ((l0.length : Int) != (l1.length : Int)) = true := bne_iff_ne.mpr c3
  have c3b2 : (l0.length == l1.length) = false := by first | simpa using c3 | (simp at c3 ⊢; omega)
  obtain rfl := Option.some.inj H;go_enter Tryd.func20, Tryd.ntmps20
  go_wp2
  repeat (go_quiet (fail); try go_wp2)
  go_ret
  exact ⟨zG, zD⟩
end Go.Proofs.YtekjfodfedpioaaDoor.F
end
section
namespace Go.Proofs.YtekjfodfedpioaaDoor.F
open Go.RowKit Go.Proofs.YtekjfodfedpioaaDoorW.PrintWords Go.Proofs.YtekjfodfedpioaaDoorW.PrintLast Go.Proofs.YtekjfodfedpioaaDoorW.PrintMore
attribute [local go_sem] max2_int min2_int max_two min_two max_three min_three max_four min_four cell_setCell_isSome
set_option linter.unusedVariables false
set_option linter.unusedSimpArgs false
open Kd
def normal_empty.f (a0_0 : Int) (a0_1 : Int) (a0_2 : ByteArray) : Option (Bool) := if a0_1 = 0 then (some (a0_2.toList == ([] : List UInt8))) else (some false)
set_option maxHeartbeats 40000000 in
set_option maxRecDepth 100000 in
theorem normal_empty.calls (a0_0 : Int) (a0_1 : Int) (a0_2 : ByteArray) (r : Bool) (w : World) (h : normal_empty.f a0_0 a0_1 a0_2 = some r) :
  Calls Tryd.prog 70 #[.agg #[.int .i64 a0_0, .int .i64 a0_1, .string a0_2]] w fun e w' => e = .returned (.bool r) ∧ Below w.heap.size w w' := by
 have hu55 := Tryd.underlying55
 have HB := Am (Below.refl w.heap.size w)
 have H : (if a0_1 = 0 then (some (a0_2.toList == ([] : List UInt8))) else (some false)) = some r := h
 clear h;by_cases c2 : a0_1 = 0
 ·rw [if_pos c2] at H;have c2b0 : (a0_1 == 0) = true := beq_iff_eq.mpr c2
  have c2b1 : (a0_1 != 0) = false := bne_eq_false_iff_eq.mpr c2
  clear c2;obtain rfl := Option.some.inj H;go_enter Tryd.func70, Tryd.ntmps70
  go_wp2_with (first | ((with_reducible refine gate_dst (N := 1) rfl ?_); refine box_event ?hg (N := 1) ?hd (cs := #[.int .i64 a0_0, .int .i64 a0_1, .string a0_2]) (t := 55) ?hr ?_; (case hd => rfl); (case hg => rfl); (case hr => first | (go_simp; done) | (go_simp; rfl)); intro gb101 hg w3 hbox hb; have BK101 := Am (hbox);have GW101 := Am (zO (w := w) HB hg);have GE101 := Am (zO (w := w) HB hg);replace HB := Am (below_step (zB HB) hb); clear hb hbox hg; obtain ⟨hcz4_0, hcz4_1, hcz4_2, hfz4_0, hfz4_1, hfz4_2⟩ := zc3 BK101))
  go_ret
  exact ⟨zF, (zB HB)⟩
 ·rw [if_neg c2] at H;have c2b0 : (a0_1 == 0) = false := beq_eq_false_iff_ne.mpr c2
  have c2b1 : (a0_1 != 0) = true := bne_iff_ne.mpr c2
  obtain rfl := Option.some.inj H;go_enter Tryd.func70, Tryd.ntmps70
  go_wp2_with (first | ((with_reducible refine gate_dst (N := 1) rfl ?_); refine box_event ?hg (N := 1) ?hd (cs := #[.int .i64 a0_0, .int .i64 a0_1, .string a0_2]) (t := 55) ?hr ?_; (case hd => rfl); (case hg => rfl); (case hr => first | (go_simp; done) | (go_simp; rfl)); intro gb101 hg w5 hbox hb; have BK101 := Am (hbox);have GW101 := Am (zO (w := w) HB hg);have GE101 := Am (zO (w := w) HB hg);replace HB := Am (below_step (zB HB) hb); clear hb hbox hg; obtain ⟨hcz6_0, hcz6_1, hcz6_2, hfz6_0, hfz6_1, hfz6_2⟩ := zc3 BK101))
  go_ret
  exact ⟨zF, (zB HB)⟩
end Go.Proofs.YtekjfodfedpioaaDoor.F
end
section
namespace Go.Proofs.YtekjfodfedpioaaDoor.F
open Go.RowKit Go.Proofs.YtekjfodfedpioaaDoorW.PrintWords Go.Proofs.YtekjfodfedpioaaDoorW.PrintLast Go.Proofs.YtekjfodfedpioaaDoorW.PrintMore
set_option linter.unusedVariables false
set_option linter.unusedSimpArgs false
section
variable {P : Program}
theorem info_size {e s b : Nat} {z : Option Value} (h : (P.info? e).map (fun i => (i.zero, i.size, i.bytes)) = some (z, s, b)) : (P.info? e).map (·.size) = some s := by
  cases hi : P.info? e with
  | none => rw [hi] at h; cases h
  | some i => rw [hi] at h; simp only [Option.map_some, Option.some.injEq, Prod.mk.injEq] at h ⊢; exact h.2.1
theorem run_copy_many (w : World) (dT sT ty elem : TypeId) (b dLen dCap : Nat) (a : Addr) (sLen sCap : Nat) (cs : List Value) {i : TypeInfo} (sz : Nat)
    (hu : P.underlying dT = some (.slice elem)) (hi : P.info? elem = some i) (hs : i.size = sz) (hn : cs.length = Nat.min sLen dLen * sz)
    (hsrc : ∀ j v, cs[j]? = some v → w.cell? (a.add j) = some v) (hc : ∀ j, j < cs.length → (w.cell? ⟨b, j, none⟩).isSome = true) (hf : ∀ j, j < cs.length → w.frozen? ⟨b, j, none⟩ = false) (h1 : ∀ v ∈ cs, v.oneCell' = true) :
    (Builtin.copy_ #[dT, sT] ty #[.slice (some ⟨b, 0, none⟩) dLen dCap, .slice (some a) sLen sCap]).run P w = .ok (goInt (Nat.min sLen dLen : Nat)) (w.setCells b 0 cs) := by
  have hl := run_loadCells_list (P := P) w a cs hsrc
  have hst := run_storeCells_cells (P := P) b 0 cs 0 w (by simpa using hc) (by simpa using hf) h1
  rw [hn] at hl
  simp [Builtin.copy_, run_underlying hu, Builtin.lenOf, Builtin.firstCells, sizeOf, typeInfo, hi, hs, hl, hst]
theorem run_copy_zero (w : World) (dT sT ty elem : TypeId) (dp sp : Option Addr) (dCap sLen sCap : Nat) {i : TypeInfo}
    (hu : P.underlying dT = some (.slice elem)) (hi : P.info? elem = some i) :
    (Builtin.copy_ #[dT, sT] ty #[.slice dp 0 dCap, .slice sp sLen sCap]).run P w = .ok (goInt (0 : Nat)) w := by
  cases dp <;> cases sp <;> simp [Builtin.copy_, run_underlying hu, Builtin.lenOf, Builtin.firstCells, sizeOf, typeInfo, hi, loadCells, loadCellsFrom, storeCells]
variable {ops : Array Oper} {rest : List Oper} {o : Oper} {a : Act} {Q : Exit → Act → World → Prop} {α : Type}
theorem R_copy_rows (d : Kd α) {w0 W : World} (base : Nat) (hgd : o.guard = none) (s x : Operand) (t t' e : TypeId) (hs0 : 0 < d.sz)
    (ho : o.op = .call { callee := .builtin .copy, args := #[s, x], argTypes := #[t, t'] }) (ht : P.underlying t = some (.slice e)) (hinfo : (P.info? e).map (·.size) = some d.sz)
    (v : Value) (xs ys : List α) (A : Option Addr) (m c : Nat) (ok okp : Nat → Prop) (hs : a.eval s = v) (hx : a.eval x = .slice A m c)
    (HO : d.R e W base ok v xs) (HR : d.C W A m ys) (hl : xs.length = m) (hKM : ∀ x cs, d.K W x cs → d.M W base okp x cs) (hokp : ∀ k, okp k → ok k ∧ some k ≠ v.ownBlock) (HB : Below base w0 W) (hbase : base ≤ W.heap.size)
    (h : ∀ w1, d.R e w1 base ok v ys → Below base w0 w1 → W.grownBy w1 v.ownBlock → wpList P ops Q rest (a.put o.dst (goInt m)) w1) :
    wpList P ops Q (o :: rest) a W := by
  obtain ⟨i0, hi, hsz⟩ := Option.map_eq_some_iff.1 hinfo
  have hm : ys.length = m := HR.1
  obtain ⟨hok, inner, hown, hr⟩ := HO
  have fin : ∀ w1, (Builtin.copy_ #[t, t'] o.type #[v, .slice A m c]).run P W = .ok (goInt m) w1 → d.R e w1 base ok v ys → W.grownBy w1 v.ownBlock → wpList P ops Q (o :: rest) a W := by
    intro w1 hr hrow hg
    refine wpList_plain hgd fun K hK => ?_
    unfold Oper.wp execOp
    simp only [ho, resolve, invoke, builtin, Sem.run_bind, Sem.run_pure, Result.andThen_ok, List.map_toArray, List.map_cons, List.map_nil, hs, hx, hr]
    exact hK _ _ (h w1 hrow (HB.grown hg hbase (own_base hown)) hg)
  rcases Nat.eq_zero_or_pos m with h0 | hp
  · subst h0
    obtain rfl : ys = [] := List.eq_nil_of_length_eq_zero hm
    obtain rfl : xs = [] := List.eq_nil_of_length_eq_zero hl
    obtain ⟨A', c', hv⟩ := own_slice hown
    refine fin W ?_ ⟨hok, inner, hown, hr⟩ (World.grownBy.refl W _)
    rw [hv]
    exact run_copy_zero W t t' o.type e A' A c' 0 c ht hi
  · rcases hown.2 with ⟨_, hx0⟩ | ⟨g, cap, cur, hv, hb, hh, hnc, hcm, hcs, htake⟩
    · omega
    obtain ⟨ad, hA, _⟩ := HR.2.2 (by omega)
    subst hA
    obtain ⟨news, hnr, hnc2⟩ := ReadsRow.inner_ HR
    have hnM : Reps (d.M W base okp) d.sz ys news := hnr.imp_ (fun p c hp => hKM p c hp)
    have hone : ∀ u ∈ news, u.oneCell' = true := by
      intro u hu
      obtain ⟨q, hq, rfl⟩ := List.mem_iff_getElem.1 hu
      have hql : q / d.sz < ys.length := by
        rw [Nat.div_lt_iff_lt_mul hs0]
        rw [← hnM.1]
        exact hq
      have hc := hnM.2 (q / d.sz) _ (List.getElem?_eq_getElem hql)
      refine d.K_one (d.K_of_M hc) _ ?_
      rw [List.mem_iff_getElem?]
      refine ⟨q % d.sz, ?_⟩
      rw [List.getElem?_take, if_pos (Nat.mod_lt _ hs0), List.getElem?_drop, Nat.mul_comm, Nat.div_add_mod, List.getElem?_eq_getElem hq]
    have hnl : news.length = m * d.sz := by rw [hnM.1, hm]
    have hcap : m * d.sz ≤ cap * d.sz := Nat.mul_le_mul_right _ (by omega)
    have hrun := run_copy_many (P := P) W t t' o.type e g m cap ad m c news d.sz ht hi hsz (by rw [hnl, show Nat.min m m = m from Nat.min_self m]) hnc2
      (fun j hj => by rw [cell_of_row W g _ cur e (0, 0) hh]; simp; omega) (fun j _ => blk_frozen hh _) hone
    rw [show Nat.min m m = m from Nat.min_self m] at hrun
    obtain ⟨cur', h3, h4, h5⟩ := setCells_row news 0 W cur hh (by omega)
    obtain ⟨s1, s2, s3, s4⟩ := setCells_same g news 0 W
    have hgr : W.grownBy (W.setCells g 0 news) v.ownBlock := ⟨s1, s2, s3, by rw [s4]; exact Nat.le_refl _, fun k _ hk => setCells_far _ _ k (fun he => hk (by rw [hv, he]; simp [Value.ownBlock]))⟩
    refine fin _ (by rw [hv, hl]; exact hrun) ⟨hok, news, ?_, hnM.imp_ fun q c hq => ?_⟩ hgr
    · rw [hm]
      refine ⟨hnl, .inr ⟨g, cap, cur', by rw [hv, hl], hb, h3, by omega, hcm, by rw [h4, hcs], ?_⟩⟩
      rw [h5, List.take_zero, List.nil_append, ← hnl, List.take_append_of_le_length (Nat.le_refl _), List.take_length]
    · have h1 := d.M_move (w1 := W.setCells g 0 news) (fun k hk => hgr.block k hk.2.2.1 (hokp k hk.1).2) (d.M_bound hq)
      exact d.M_mono (fun k hk => hokp k hk.1) h1
theorem R_clear_tail (d : Kd α) {w0 W : World} (base : Nat) (hgd : o.guard = none) (x : Operand) (t e : TypeId) (hs0 : 0 < d.sz) (hdst : o.dst = none)
    (ho : o.op = .call { callee := .builtin .clear, args := #[x], argTypes := #[t] }) (ht : P.underlying t = some (.slice e)) (z : Value) (hzv : ∀ w, (zeroValue e).run P w = .ok z w) (hz : z.cells.size = d.sz) (h1 : ∀ u ∈ z.cells.toList, u.oneCell' = true)
    (xs : List α) (A : Option Addr) (n c j : Nat) (ok : Nat → Prop) (hj : j ≤ n) (Ac : Option Addr) (hAc : Ac = (if c = j then A else A.map (·.add (j * d.sz)))) (hx : a.eval x = .slice Ac (n - j) (c - j))
    (HO : d.R e W base ok (.slice A n c) xs) (HB : Below base w0 W) (hbase : base ≤ W.heap.size)
    (h : ∀ w1, d.R e w1 base ok (.slice A j c) (xs.take j) → Below base w0 w1 → W.grownBy w1 (Value.slice A j c).ownBlock → wpList P ops Q rest a w1) :
    wpList P ops Q (o :: rest) a W := by
  subst hAc
  have hlen : xs.length = n := by
    obtain ⟨A', c', he⟩ := Kd.R_slice HO
    injection he with _ h2 _
    exact h2.symm
  have HT := Kd.R_take (m := j) HO (by omega)
  obtain ⟨hok, inner, hown, hr⟩ := HO
  have fin : ∀ w1, (Builtin.clear_ #[t] o.type #[.slice (if c = j then A else A.map (·.add (j * d.sz))) (n - j) (c - j)]).run P W = .ok (.tuple #[]) w1 → d.R e w1 base ok (.slice A j c) (xs.take j) → W.grownBy w1 (Value.slice A j c).ownBlock → wpList P ops Q (o :: rest) a W := by
    intro w1 hr hrow hg
    refine wpList_plain hgd fun K hK => ?_
    unfold Oper.wp execOp
    simp only [ho, resolve, invoke, builtin, Sem.run_bind, Sem.run_pure, Result.andThen_ok, List.map_toArray, List.map_cons, List.map_nil, hx, hr, hdst]
    have hput : a.put o.dst (.tuple #[]) = a := by rw [hdst]; rfl
    have hob : (Value.slice A j c).ownBlock = (Value.slice A n c).ownBlock := by cases A <;> rfl
    have hw := h w1 hrow (HB.grown hg hbase (fun k hk => own_base hown k (hob ▸ hk))) hg
    rw [← hput] at hw
    exact hK _ _ hw
  rcases Nat.lt_or_ge j n with hjn | hjn
  · rcases hown.2 with ⟨_, hx0⟩ | ⟨g, cap, cur, hv, hb, hh, hnc, hcm, hcs, htake⟩
    · omega
    injection hv with hA hn hc
    subst hA; subst hc
    have hne : c ≠ j := by omega
    obtain ⟨m, hm⟩ : ∃ m, n - j = m + 1 := ⟨n - j - 1, by omega⟩
    have hmul : j * d.sz + (m + 1) * d.sz ≤ c * d.sz := by rw [← Nat.add_mul]; exact Nat.mul_le_mul_right _ (by omega)
    obtain ⟨zs, hzs⟩ : ∃ zs, zs = (Builtin.zeroCells z.cells (m + 1)).toList := ⟨_, rfl⟩
    have hzl : zs.length = (m + 1) * d.sz := by rw [hzs]; simp [Builtin.zeroCells, hz, Nat.mul_comm]
    have hzone : ∀ u ∈ zs, u.oneCell' = true := by
      intro u hu
      rw [hzs] at hu
      simp only [Builtin.zeroCells, Array.toList_map, List.mem_map] at hu
      obtain ⟨q, _, rfl⟩ := hu
      have hq : q % z.cells.size < z.cells.size := Nat.mod_lt _ (by omega)
      rw [getElem!_pos z.cells _ hq]
      exact h1 _ (by rw [← Array.getElem_toList (h := by simpa using hq)]; exact List.getElem_mem _)
    have hst := run_storeCells_cells (P := P) g (j * d.sz) zs 0 W (fun q hq => by rw [cell_of_row W g _ cur e (0, 0) hh]; simp; omega) (fun q _ => blk_frozen hh _) hzone
    obtain ⟨cur', h3, h4, h5⟩ := setCells_row zs (j * d.sz) W cur hh (by omega)
    obtain ⟨s1, s2, s3, s4⟩ := setCells_same g zs (j * d.sz) W
    have hgr : W.grownBy (W.setCells g (j * d.sz) zs) (Value.slice (some ⟨g, 0, none⟩) j c).ownBlock := ⟨s1, s2, s3, by rw [s4]; exact Nat.le_refl _, fun k _ hk => setCells_far _ _ k (fun he => hk (by rw [he]; simp [Value.ownBlock]))⟩
    have hadd : (⟨g, 0, none⟩ : Addr).add (j * d.sz) = ⟨g, j * d.sz, none⟩ := by rw [add_plain]
    have hmap : (some (⟨g, 0, none⟩ : Addr)).map (·.add (j * d.sz)) = some ⟨g, j * d.sz, none⟩ := by rw [Option.map_some, hadd]
    refine fin (W.setCells g (j * d.sz) zs) ?_ ?_ hgr
    · rw [if_neg hne, hm, hmap]
      simp only [Nat.add_zero] at hst
      simp [Builtin.clear_, run_underlying ht, hzv, ← hzs, hst]
    · obtain ⟨hokT, innerT, hownT, hrT⟩ := HT
      refine ⟨hokT, innerT, ?_, hrT.imp_ fun q cc hq => ?_⟩
      · refine ⟨hownT.1, .inr ⟨g, c, cur', by rw [List.length_take, hlen, Nat.min_eq_left hj], hb, h3, by rw [List.length_take]; omega, hcm, by rw [h4, hcs], ?_⟩⟩
        rcases hownT.2 with ⟨h0, _⟩ | ⟨g2, cap2, cur2, hv2, hb2, hh2, _, _, _, htake2⟩
        · simp at h0
        · injection hv2 with hA2 hn2 hc2
          injection hA2 with hA2
          injection hA2 with hA2
          subst hA2
          rw [hh] at hh2
          injection hh2 with hh2
          injection hh2 with hh2
          subst hh2
          rw [← htake2, h5, List.length_take, hlen, Nat.min_eq_left hj, List.append_assoc, List.take_append_of_le_length (by rw [List.length_take, Array.length_toList]; omega), List.take_take, Nat.min_self]
      · have h1 := d.M_move (w1 := W.setCells g (j * d.sz) zs) (fun k hk => hgr.block k hk.2.2.1 hk.1.2) (d.M_bound hq)
        exact d.M_mono (fun k hk => hk.1) h1
  · obtain rfl : j = n := by omega
    refine fin W ?_ HT (World.grownBy.refl W _)
    rw [Nat.sub_self]
    cases hA : (if c = j then A else A.map (·.add (j * d.sz))) <;> simp [Builtin.clear_, run_underlying ht]
end
section
variable {P : Program} {ops : Array Oper} {rest : List Oper} {o : Oper} {a : Act} {Q : Exit → Act → World → Prop} {W : World}
theorem gate_value {x : Operand} {ags : Array Operand} {ts : Array TypeId} (_ho : o.op = .call { callee := .value x, args := ags, argTypes := ts }) (h : wpList P ops Q (o :: rest) a W) : wpList P ops Q (o :: rest) a W := h
theorem gate_make {t : TypeId} {x y : Operand} (_ho : o.op = .makeSlice t x y) (h : wpList P ops Q (o :: rest) a W) : wpList P ops Q (o :: rest) a W := h
theorem goesV_ {oi : Oper} {w : World} (N : Option Tmp) (hd : oi.dst = N) (hg : oi.guard = none) {f : FuncId} {fn : Func} {x : Operand} {ags : Array Operand} {ts : Array TypeId} (hf : P.funcs[f]? = some fn) (hname : (fn.name == "runtime.NumGoroutine") = false) (hb : fn.body.isSome = true) (args : Array Value)
    (hop : oi.op = .call { callee := .value x, args := ags, argTypes := ts }) (hx : a.eval x = .func (.func f) #[] #[]) (hargs : ags.map a.eval = args)
    (h : Calls P f args w fun e w' => ∃ v, e = .returned v ∧ wpList P ops Q rest (a.put N v) w') : wpList P ops Q (oi :: rest) a w := by
  have he := enters_ hf hname hb args w
  have hrun : (execOp a.eval oi).run P w = .ok (.enter f args) w := by
    unfold execOp
    simp [hop, resolve, Deferred.ofValue, invoke, hx, hargs, he]
  refine wpList_plain hg fun K hK => ?_
  unfold Oper.wp
  rw [hrun, Oper.upon_enter]
  refine h.mono fun e w'' hh => ?_
  obtain ⟨v, rfl, hk⟩ := hh
  subst hd
  exact hK _ _ hk
end
def fit_rune.f (a b c d e f g h i : Int) : Option Int := ([a, b, c, d, e, f, g, h] : List Int)[i.toNat]?
theorem fit_cell {w : World} {gb t : Nat} {a b c d e f g h i r : Int} (hb : w.heap[gb]? = some (.cells #[.int .i32 a, .int .i32 b, .int .i32 c, .int .i32 d, .int .i32 e, .int .i32 f, .int .i32 g, .int .i32 h] t (0, 0)))
    (hr : fit_rune.f a b c d e f g h i = some r) : w.cell? ⟨gb, i.toNat, none⟩ = some (.int .i32 r) := by
  rw [blk_cell hb]
  unfold fit_rune.f at hr
  have : (#[.int .i32 a, .int .i32 b, .int .i32 c, .int .i32 d, .int .i32 e, .int .i32 f, .int .i32 g, .int .i32 h] : Array Value) = (([a, b, c, d, e, f, g, h] : List Int).map (Value.int .i32)).toArray := rfl
  rw [this, List.getElem?_toArray, List.getElem?_map, hr]
  rfl
theorem rem8 (x : Int) (h : 0 ≤ x) : 0 ≤ Int.tmod x 8 ∧ Int.tmod x 8 < 8 := ⟨Int.tmod_nonneg _ h, Int.tmod_lt_of_pos _ (by decide)⟩
theorem bt_nonneg (s : ByteArray) (i : Int) : 0 ≤ bt s i := (bt_range s i).1
end Go.Proofs.YtekjfodfedpioaaDoor.F
end
section
namespace Go.Proofs.YtekjfodfedpioaaDoor.F
open Go.RowKit Go.Proofs.YtekjfodfedpioaaDoorW.PrintWords Go.Proofs.YtekjfodfedpioaaDoorW.PrintLast Go.Proofs.YtekjfodfedpioaaDoorW.PrintMore
attribute [local go_sem] max2_int min2_int max_two min_two max_three min_three max_four min_four cell_setCell_isSome
set_option linter.unusedVariables false
set_option linter.unusedSimpArgs false
open Kd
def api_Span_89.l0 : Nat → List (S55) → Int → Int → Option (Int)
  | 0, _, _, _ => none
  | k + 1, x0, x7, x8 => if x8 < x7 then (if 0 ≤ x8 then (if x8 < (x0.length : Int) then ((normal_empty.f ((rd_T55 x0 x8).f0) ((rd_T55 x0 x8).f1) ((rd_T55 x0 x8).f2)).bind fun t102 => (if t102 = true then (some x8) else (api_Span_89.l0 k x0 x7 (wrap64 (x8 + 1))))) else (none)) else (none)) else (some (-1))
def api_Span_89.f (k : Nat) (l0 : List (S55)) : Option (Int) := api_Span_89.l0 k l0 (l0.length : Int) 0
theorem api_Span_89.mono_l : ∀ k, (∀ y0 y1 y2, LeO (api_Span_89.l0 k y0 y1 y2) (api_Span_89.l0 (k + 1) y0 y1 y2))
  | 0 => fun _ _ _ r h => by simp [api_Span_89.l0] at h
  | k + 1 => by
    have ih0 := api_Span_89.mono_l k
    · intro y0 y1 y2
      unfold api_Span_89.l0
      repeat' first
      | (with_reducible exact ih0 _ _ _)
      | (with_reducible exact LeO.refl _)
      | (with_reducible exact LeO.none _)
      | (with_reducible refine LeO.ite ?_ ?_)
      | (with_reducible refine LeO.bind ?_ (fun _ => ?_))
      | exact ih0 _ _ _
      | exact LeO.none _
      | refine LeO.ite ?_ ?_
      | refine LeO.bind ?_ (fun _ => ?_)
theorem api_Span_89.mono : ∀ a0 k, LeO (api_Span_89.f k a0) (api_Span_89.f (k + 1) a0) := by
  intro a0 k
  have ih0 := api_Span_89.mono_l k
  unfold api_Span_89.f
  repeat' first
      | (with_reducible exact ih0 _ _ _)
      | (with_reducible exact LeO.refl _)
      | (with_reducible exact LeO.none _)
      | (with_reducible refine LeO.ite ?_ ?_)
      | (with_reducible refine LeO.bind ?_ (fun _ => ?_))
      | exact ih0 _ _ _
      | exact LeO.none _
      | refine LeO.ite ?_ ?_
      | refine LeO.bind ?_ (fun _ => ?_)
set_option maxHeartbeats 40000000 in
set_option maxRecDepth 100000 in
theorem api_Span_89.calls (k : Nat) (A0 : Option Addr) (c0 : Nat) (l0 : List (S55)) (r : Int) (w : World) (hr0 : Kd.C k55 w A0 l0.length l0) (hc0 : l0.length ≤ c0) (h : api_Span_89.f k l0 = some r) :
  Calls Tryd.prog 89 #[.slice A0 l0.length c0, .func (.func 70) #[] #[]] w fun e w' => e = .returned (.int .i64 r) ∧ Below w.heap.size w w' := by
 have hu55 := Tryd.underlying55
 have HR0 := Am hr0;have HC0 := Am hc0;clear hr0 hc0;have HB := Am (Below.refl w.heap.size w)
 have H : (api_Span_89.l0 k l0 (l0.length : Int) 0) = some r := h
 clear h;have H' := Am H
 clear H;go_enter Tryd.func89, Tryd.ntmps89
 go_wp2
 go_loopg [8] k (fun kq v8 w' => ∃ (x8_1 : Int), v8 = .int .i64 x8_1 ∧ Aside0 (api_Span_89.l0 kq l0 (l0.length : Int) x8_1 = some r) ∧ Aside0 (kq ≤ k) ∧ Aside0 (Below w.heap.size w w'))
 case atStart => exact ⟨(0), zG, H', ⟨Nat.le_refl _⟩, ⟨(zB HB)⟩⟩
 case round =>
  clear H';obtain ⟨x8_1, rfl, HA, HK1, HB⟩ := hrel
  cases gk with
  | zero => exact absurd HA.out (by simp [api_Span_89.l0])
  | succ k1 =>
   have H := HA.out;clear HA;simp only [api_Span_89.l0] at H
   by_cases c2 : x8_1 < (l0.length : Int)
   ·rw [if_pos c2] at H;have c2b0 : decide (x8_1 < (l0.length : Int)) = true := decide_eq_true c2
    clear c2;by_cases c3 : 0 ≤ x8_1
    ·rw [if_pos c3] at H;have c3b0 : decide (0 ≤ x8_1) = true := decide_eq_true c3
     clear c3;by_cases c4 : x8_1 < (l0.length : Int)
     ·rw [if_pos c4] at H;have c4b0 : decide (x8_1 < (l0.length : Int)) = true := decide_eq_true c4
      clear c4;replace H := Option.bind_eq_some_iff.mp H;obtain ⟨t102, A50, H⟩ := H;have A5 := Am A50;clear A50;by_cases c6 : t102 = true
      ·subst c6
       have H1 : (some x8_1) = some r := by rw [if_pos rfl] at H; exact H
       clear H;have H := H1
       clear H1;obtain rfl := Option.some.inj H;have p101 : 0 ≤ (x8_1 : Int) := of_decide_eq_true (by assumption)
       have q101 : x8_1 < (l0.length : Int) := of_decide_eq_true (by assumption)
       obtain ⟨ad101, e101, hx101_0, hx101_1, hx101_2⟩ := at_T55 HR0.out x8_1 p101 q101
       cases e101
       replace hx101_0 := (HB.out.cell (World.block_lt_of_cell? w _ hx101_0)).trans hx101_0
       replace hx101_1 := (HB.out.cell (World.block_lt_of_cell? w _ hx101_1)).trans hx101_1
       replace hx101_2 := (HB.out.cell (World.block_lt_of_cell? w _ hx101_2)).trans hx101_2
       replace p101 := eq_true p101;replace q101 := eq_true q101;go_wp2_with (first | ((with_reducible refine gate_value (x := .tmp 11) rfl ?_); refine goesV_ (some 16) rfl rfl Tryd.func70 (by kernel_rfl) rfl #[.agg #[.int .i64 ((rd_T55 l0 x8_1).f0), .int .i64 ((rd_T55 l0 x8_1).f1), .string ((rd_T55 l0 x8_1).f2)]] rfl rfl zE ?_; (with_reducible refine (normal_empty.calls ((rd_T55 l0 x8_1).f0) ((rd_T55 l0 x8_1).f1) ((rd_T55 l0 x8_1).f2) true _ A5.out).mono ?_); rintro e w7 ⟨rfl, hb⟩; refine ⟨_, rfl, ?_⟩; replace HB := Am (below_step (zB HB) hb); (try clear hb)))
       go_ret
       exact ⟨zF, (zB HB)⟩
      ·replace c6 := Bool.eq_false_iff.mpr c6
       subst c6
       have H1 : (api_Span_89.l0 k1 l0 (l0.length : Int) (wrap64 (x8_1 + 1))) = some r := by rw [if_neg (show ¬ (false = true) by decide)] at H; exact H
       clear H;have H := H1
       clear H1;have H' := Am H
       clear H;have p101 : 0 ≤ (x8_1 : Int) := of_decide_eq_true (by assumption)
       have q101 : x8_1 < (l0.length : Int) := of_decide_eq_true (by assumption)
       obtain ⟨ad101, e101, hx101_0, hx101_1, hx101_2⟩ := at_T55 HR0.out x8_1 p101 q101
       cases e101
       replace hx101_0 := (HB.out.cell (World.block_lt_of_cell? w _ hx101_0)).trans hx101_0
       replace hx101_1 := (HB.out.cell (World.block_lt_of_cell? w _ hx101_1)).trans hx101_1
       replace hx101_2 := (HB.out.cell (World.block_lt_of_cell? w _ hx101_2)).trans hx101_2
       replace p101 := eq_true p101;replace q101 := eq_true q101;go_wp2_with (first | ((with_reducible refine gate_value (x := .tmp 11) rfl ?_); refine goesV_ (some 16) rfl rfl Tryd.func70 (by kernel_rfl) rfl #[.agg #[.int .i64 ((rd_T55 l0 x8_1).f0), .int .i64 ((rd_T55 l0 x8_1).f1), .string ((rd_T55 l0 x8_1).f2)]] rfl rfl zE ?_; (with_reducible refine (normal_empty.calls ((rd_T55 l0 x8_1).f0) ((rd_T55 l0 x8_1).f1) ((rd_T55 l0 x8_1).f2) false _ A5.out).mono ?_); rintro e w8 ⟨rfl, hb⟩; refine ⟨_, rfl, ?_⟩; replace HB := Am (below_step (zB HB) hb); (try clear hb)))
       go_roundg k1
       case measure => have := HK1.out; omega
       case rel => exact ⟨(wrap64 (x8_1 + 1)), zG, H', ⟨by have := HK1.out; omega⟩, ⟨(zB HB)⟩⟩
     ·rw [if_neg c4] at H;exact absurd H (by simp)
    ·rw [if_neg c3] at H;exact absurd H (by simp)
   ·rw [if_neg c2] at H;have c2b0 : decide (x8_1 < (l0.length : Int)) = false := decide_eq_false c2
    clear c2;obtain rfl := Option.some.inj H;go_wp2
    go_ret
    exact ⟨zF, (zB HB)⟩
end Go.Proofs.YtekjfodfedpioaaDoor.F
end
section
namespace Go.Proofs.YtekjfodfedpioaaDoor.F
open Go.RowKit Go.Proofs.YtekjfodfedpioaaDoorW.PrintWords Go.Proofs.YtekjfodfedpioaaDoorW.PrintLast Go.Proofs.YtekjfodfedpioaaDoorW.PrintMore
attribute [local go_sem] max2_int min2_int max_two min_two max_three min_three max_four min_four cell_setCell_isSome
set_option linter.unusedVariables false
set_option linter.unusedSimpArgs false
open Kd
def api_Span_69.l0 : Nat → List (S55) → Int → Int → Option ((List (S55)))
  | 0, _, _, _ => none
  | k + 1, x0, x5, x6 => if x6 < (x0.length : Int) then (if 0 ≤ x6 then ((normal_empty.f ((rd_T55 x0 x6).f0) ((rd_T55 x0 x6).f1) ((rd_T55 x0 x6).f2)).bind fun t104 => (if t104 = true then (api_Span_69.l0 k x0 x5 (wrap64 (x6 + 1))) else (if 0 ≤ x5 then (if x5 < (x0.length : Int) then (api_Span_69.l0 k (x0.set (x5 : Int).toNat (⟨(rd_T55 x0 x6).f0, (rd_T55 x0 x6).f1, (rd_T55 x0 x6).f2⟩ : S55)) (wrap64 (x5 + 1)) (wrap64 (x6 + 1))) else (none)) else (none)))) else (none)) else (if 0 ≤ x5 then (if x5 ≤ (x0.length : Int) then (some (x0.take (x5 : Int).toNat)) else (none)) else (none))
def api_Span_69.f (k : Nat) (l0 : List (S55)) : Option ((List (S55))) := (api_Span_89.f k l0).bind fun t101 => (if t101 = (-1) then (some l0) else (api_Span_69.l0 k l0 t101 (wrap64 (t101 + 1))))
theorem api_Span_69.mono_l : ∀ k, (∀ y0 y1 y2, LeO (api_Span_69.l0 k y0 y1 y2) (api_Span_69.l0 (k + 1) y0 y1 y2))
  | 0 => fun _ _ _ r h => by simp [api_Span_69.l0] at h
  | k + 1 => by
    have ih0 := api_Span_69.mono_l k
    · intro y0 y1 y2
      unfold api_Span_69.l0
      repeat' first
      | (with_reducible exact ih0 _ _ _)
      | (with_reducible exact api_Span_89.mono _ _)
      | (with_reducible exact LeO.refl _)
      | (with_reducible exact LeO.none _)
      | (with_reducible refine LeO.ite ?_ ?_)
      | (with_reducible refine LeO.bind ?_ (fun _ => ?_))
      | exact ih0 _ _ _
      | exact api_Span_89.mono _ _
      | exact LeO.none _
      | refine LeO.ite ?_ ?_
      | refine LeO.bind ?_ (fun _ => ?_)
theorem api_Span_69.mono : ∀ a0 k, LeO (api_Span_69.f k a0) (api_Span_69.f (k + 1) a0) := by
  intro a0 k
  have ih0 := api_Span_69.mono_l k
  unfold api_Span_69.f
  repeat' first
      | (with_reducible exact ih0 _ _ _)
      | (with_reducible exact api_Span_89.mono _ _)
      | (with_reducible exact LeO.refl _)
      | (with_reducible exact LeO.none _)
      | (with_reducible refine LeO.ite ?_ ?_)
      | (with_reducible refine LeO.bind ?_ (fun _ => ?_))
      | exact ih0 _ _ _
      | exact api_Span_89.mono _ _
      | exact LeO.none _
      | refine LeO.ite ?_ ?_
      | refine LeO.bind ?_ (fun _ => ?_)
set_option maxHeartbeats 40000000 in
set_option maxRecDepth 100000 in
theorem api_Span_69.calls (k : Nat) (P0_ : Nat → Prop) (u9000_ : Value) (l0 : List (S55)) (r : List (S55)) (w0 w : World) (hB : Below w0.heap.size w0 w) (ho0 : Kd.R k55 55 w w0.heap.size P0_ u9000_ l0) (h : api_Span_69.f k l0 = some r) :
  Calls Tryd.prog 69 #[u9000_, .func (.func 70) #[] #[]] w fun e w' => ∃ v0_ : Value, e = .returned (v0_) ∧ Kd.R k55 55 w' w0.heap.size (fun k_ => (P0_ k_ ∨ w.heap.size ≤ k_)) v0_ r ∧ Below w0.heap.size w0 w' ∧ Kept w w' (fun k_ => P0_ k_) := by
 have hu55 := Tryd.underlying55
 have HO0 := Am (show Kd.R k55 55 w w0.heap.size (fun k_ => (P0_ k_ ∨ w.heap.size ≤ k_)) u9000_ l0 from R_mono ho0 (fun k_ hk => (.inl hk)))
 have HK := Am (Kept.refl w (fun k_ => P0_ k_))
 have HW0 := Am hB.size
 have HB := Am hB;clear hB;have H : ((api_Span_89.f k l0).bind fun t101 => (if t101 = (-1) then (some l0) else (api_Span_69.l0 k l0 t101 (wrap64 (t101 + 1))))) = some r := h
 clear h;replace H := Option.bind_eq_some_iff.mp H;obtain ⟨t101, A20, H⟩ := H;replace H : (if t101 = (-1) then (some l0) else (api_Span_69.l0 k l0 t101 (wrap64 (t101 + 1)))) = some r := H
 have A2 := Am A20;clear A20;by_cases c3 : t101 = (-1)
 ·rw [if_pos c3] at H;have c3b0 : (t101 == (-1)) = true := beq_iff_eq.mpr c3
  have c3b1 : (t101 != (-1)) = false := bne_eq_false_iff_eq.mpr c3
  clear c3;obtain rfl := Option.some.inj H;obtain ⟨Ao4, co4, eo4⟩ := R_slice HO0.out
  subst eo4
  go_enter Tryd.func69, Tryd.ntmps69
  go_wp2_with (first | ((with_reducible refine gate_callee (f := 89) rfl ?_); refine goesL_ (some 10) rfl rfl Tryd.func89 (by kernel_rfl) rfl #[.slice Ao4 l0.length co4, .func (.func 70) #[] #[]] rfl zE ?_; (with_reducible refine (api_Span_89.calls k _ _ l0 t101 _ ?side1 ?side2 A2.out).mono ?_); (case side1 => exact zI (R_reads' HO0.out).2.2); (case side2 => exact (R_reads' HO0.out).2.1); rintro e w5 ⟨rfl, hb⟩; refine ⟨_, rfl, ?_⟩; replace HO0 := Am (R_below (zR HO0) hb);replace HK := Am (Kept.below (S := (fun k_ => P0_ k_)) (by repeat (first | (with_reducible first | exact HK.out | apply Kept.alloc | apply Kept.drewN | apply Kept.drew) | exact HK.out)) hb);replace HB := Am (below_step (zB HB) hb); (try clear hb)))
  go_ret
  exact ⟨_, zF, (zR HO0), (zB HB), by repeat (first | (with_reducible first | exact HK.out | apply Kept.alloc | apply Kept.drewN | apply Kept.drew) | exact HK.out)⟩
 ·rw [if_neg c3] at H;have c3b0 : (t101 == (-1)) = false := beq_eq_false_iff_ne.mpr c3
  have c3b1 : (t101 != (-1)) = true := bne_iff_ne.mpr c3
  have H' := Am H
  clear H;obtain ⟨Ao6, co6, eo6⟩ := R_slice HO0.out
  subst eo6
  go_enter Tryd.func69, Tryd.ntmps69
  go_wp2_with (first | ((with_reducible refine gate_callee (f := 89) rfl ?_); refine goesL_ (some 10) rfl rfl Tryd.func89 (by kernel_rfl) rfl #[.slice Ao6 l0.length co6, .func (.func 70) #[] #[]] rfl zE ?_; (with_reducible refine (api_Span_89.calls k _ _ l0 t101 _ ?side1 ?side2 A2.out).mono ?_); (case side1 => exact zI (R_reads' HO0.out).2.2); (case side2 => exact (R_reads' HO0.out).2.1); rintro e w7 ⟨rfl, hb⟩; refine ⟨_, rfl, ?_⟩; replace HO0 := Am (R_below (zR HO0) hb);replace HK := Am (Kept.below (S := (fun k_ => P0_ k_)) (by repeat (first | (with_reducible first | exact HK.out | apply Kept.alloc | apply Kept.drewN | apply Kept.drew) | exact HK.out)) hb);replace HB := Am (below_step (zB HB) hb); (try clear hb)))
  go_loopg [5, 6] k (fun kq v5 v6 w' => ∃ (x0_1 : List (S55)) (x5_1 : Int) (x6_1 : Int), v5 = .int .i64 x5_1 ∧ v6 = .int .i64 x6_1 ∧ Aside0 (api_Span_69.l0 kq x0_1 x5_1 x6_1 = some r) ∧ Aside0 (kq ≤ k) ∧ Aside0 (Kd.R k55 55 w' w0.heap.size (fun k_ => (P0_ k_ ∨ w.heap.size ≤ k_)) (.slice Ao6 l0.length co6) x0_1) ∧ Aside0 (Kept w w' (fun k_ => P0_ k_)) ∧ Aside0 (Below w0.heap.size w0 w'))
  case atStart => exact ⟨(l0), (t101), (wrap64 (t101 + 1)), zG, zG, H', ⟨Nat.le_refl _⟩, ⟨(zR HO0)⟩, ⟨by repeat (first | (with_reducible first | exact HK.out | apply Kept.alloc | apply Kept.drewN | apply Kept.drew) | exact HK.out)⟩, ⟨(zB HB)⟩⟩
  case round =>
   clear H';(try clear p2);(try clear c3);(try clear c3b0);(try clear c3b1);(try clear c6);(try clear p6);obtain ⟨x0_1, x5_1, x6_1, rfl, rfl, HA, HK1, HO_0, HK, HB⟩ := hrel
   have hl0_1 := (R_reads' HO_0.out).1
   rw [hl0_1] at HO_0
   (try simp only [hl0_1])
   cases gk with
   | zero => exact absurd HA.out (by simp [api_Span_69.l0])
   | succ k1 =>
    have H := HA.out;clear HA;simp only [api_Span_69.l0] at H
    by_cases c8 : x6_1 < (x0_1.length : Int)
    ·rw [if_pos c8] at H;have c8b0 : decide (x6_1 < (x0_1.length : Int)) = true := decide_eq_true c8
     clear c8;by_cases c9 : 0 ≤ x6_1
     ·rw [if_pos c9] at H;have c9b0 : decide (0 ≤ x6_1) = true := decide_eq_true c9
      clear c9;replace H := Option.bind_eq_some_iff.mp H;obtain ⟨t104, A100, H⟩ := H;have A10 := Am A100;clear A100;by_cases c11 : t104 = true
      ·subst c11
       have H1 : (api_Span_69.l0 k1 x0_1 x5_1 (wrap64 (x6_1 + 1))) = some r := by rw [if_pos rfl] at H; exact H
       clear H;have H := H1
       clear H1;have H' := Am H
       clear H;have p102 : 0 ≤ (x6_1 : Int) := of_decide_eq_true (by assumption)
       have q102 : x6_1 < (x0_1.length : Int) := of_decide_eq_true (by assumption)
       obtain ⟨ad102, e102, hx102_0, hx102_1, hx102_2⟩ := at_T55 (R_reads' HO_0.out).2.2 x6_1 p102 q102
       cases e102
       replace p102 := eq_true p102;replace q102 := eq_true q102;go_wp2_with (first | ((with_reducible refine gate_dst (N := 7) rfl ?_); refine box_event ?hg (N := 7) ?hd (cs := #[.int .i64 0, .int .i64 0, .string (⟨#[]⟩ : ByteArray)]) (t := 55) ?hr ?_; (case hd => rfl); (case hg => rfl); (case hr => first | (go_simp; done) | (go_simp; rfl)); intro gb103 hg w12 hbox hb; replace HO_0 := Am (R_below (R_elderB (zR HO_0) gb103 (Nat.le_of_eq hg.symm)) hb);have BK103 := Am (hbox);have GW103 := Am ((by rw [hg]; exact (by first | exact HK.out.1 | exact (show Kept w _ (fun k_ => P0_ k_) from by repeat (first | (with_reducible first | exact HK.out | apply Kept.alloc | apply Kept.drewN | apply Kept.drew) | exact HK.out)).1) : w.heap.size ≤ gb103));replace HK := Am (Kept.below (S := (fun k_ => P0_ k_)) (by repeat (first | (with_reducible first | exact HK.out | apply Kept.alloc | apply Kept.drewN | apply Kept.drew) | exact HK.out)) hb);have GE103 := Am ((by rw [hg]; exact (below_size (zB HB)) : w0.heap.size ≤ gb103));replace HB := Am (below_step (zB HB) hb); clear hb hbox hg; obtain ⟨hcz13_0, hcz13_1, hcz13_2, hfz13_0, hfz13_1, hfz13_2⟩ := zc3 BK103) | ((with_reducible refine gate_value (x := .tmp 26) rfl ?_); refine goesV_ (some 28) rfl rfl Tryd.func70 (by kernel_rfl) rfl #[.agg #[.int .i64 ((rd_T55 x0_1 x6_1).f0), .int .i64 ((rd_T55 x0_1 x6_1).f1), .string ((rd_T55 x0_1 x6_1).f2)]] rfl rfl zE ?_; (with_reducible refine (normal_empty.calls ((rd_T55 x0_1 x6_1).f0) ((rd_T55 x0_1 x6_1).f1) ((rd_T55 x0_1 x6_1).f2) true _ A10.out).mono ?_); rintro e w14 ⟨rfl, hb⟩; refine ⟨_, rfl, ?_⟩; replace HO_0 := Am (R_below (by (with_reducible repeat (first | apply R_alloc | apply R_drewN | apply R_drew)); exact (R_mono (zY (R_mono HO_0.out (fun k_ hk => (⟨hk, hk.2⟩ : _ ∧ k_ ≠ gb103))) gb103 (fun _ hk => hk.2) (.int .i64 ((rd_T55 x0_1 x6_1).f0)) (.int .i64 ((rd_T55 x0_1 x6_1).f1)) (.string ((rd_T55 x0_1 x6_1).f2))) (fun _ h_ => h_.1))) hb);replace BK103 := Am (blk_below (g := gb103) (o := .cells #[.int .i64 ((rd_T55 x0_1 x6_1).f0), .int .i64 ((rd_T55 x0_1 x6_1).f1), .string ((rd_T55 x0_1 x6_1).f2)] 55 (0, 0)) (zP BK103) hb);replace HK := Am (Kept.below (S := (fun k_ => P0_ k_)) (by repeat (first | (with_reducible first | exact HK.out | apply Kept.alloc | apply Kept.drewN | apply Kept.drew | refine Kept.setCell ?_ (.inr GW103.out) _) | exact HK.out)) hb);replace HB := Am (below_step (zB HB) hb); (try clear hb)))
       (try simp only [← hl0_1])
       go_roundg k1
       case measure => have := HK1.out; omega
       case rel => exact ⟨(x0_1), (x5_1), (wrap64 (x6_1 + 1)), zG, zG, H', ⟨by have := HK1.out; omega⟩, ⟨by (try simp only [hl0_1]); (with_reducible repeat (first | apply R_alloc | apply R_drewN | apply R_drew)); exact R_mono HO_0.out (fun _ hk => hk.1)⟩, ⟨by repeat (first | (with_reducible first | exact HK.out | apply Kept.alloc | apply Kept.drewN | apply Kept.drew | refine Kept.setCell ?_ (.inr GW103.out) _) | exact HK.out)⟩, ⟨(zB HB)⟩⟩
      ·replace c11 := Bool.eq_false_iff.mpr c11
       subst c11
       have H1 : (if 0 ≤ x5_1 then (if x5_1 < (x0_1.length : Int) then (api_Span_69.l0 k1 (x0_1.set (x5_1 : Int).toNat (⟨(rd_T55 x0_1 x6_1).f0, (rd_T55 x0_1 x6_1).f1, (rd_T55 x0_1 x6_1).f2⟩ : S55)) (wrap64 (x5_1 + 1)) (wrap64 (x6_1 + 1))) else (none)) else (none)) = some r := by rw [if_neg (show ¬ (false = true) by decide)] at H; exact H
       clear H;have H := H1
       clear H1;by_cases c15 : 0 ≤ x5_1
       ·rw [if_pos c15] at H;have c15b0 : decide (0 ≤ x5_1) = true := decide_eq_true c15
        clear c15;by_cases c16 : x5_1 < (x0_1.length : Int)
        ·rw [if_pos c16] at H;have c16b0 : decide (x5_1 < (x0_1.length : Int)) = true := decide_eq_true c16
         clear c16;obtain ⟨y105, hy105⟩ : ∃ y_ : List (S55), y_ = (x0_1.set (x5_1 : Int).toNat (⟨(rd_T55 x0_1 x6_1).f0, (rd_T55 x0_1 x6_1).f1, (rd_T55 x0_1 x6_1).f2⟩ : S55)) := ⟨_, rfl⟩
         replace H : (api_Span_69.l0 k1 y105 (wrap64 (x5_1 + 1)) (wrap64 (x6_1 + 1))) = some r := by first | (rw [hy105]; with_reducible exact H) | (have H2_ := (Option.bind_some _ _).symm.trans H; rw [hy105]; with_reducible exact H2_) | (have H2_ := (Option.bind_some _ _).symm.trans H; with_reducible exact H2_) | with_reducible exact H | (rw [hy105]; exact H) | exact H
         have Ny105 := Am hy105;clear hy105;have H' := Am H
         clear H;have p102 : 0 ≤ (x6_1 : Int) := of_decide_eq_true (by assumption)
         have q102 : x6_1 < (x0_1.length : Int) := of_decide_eq_true (by assumption)
         obtain ⟨ad102, e102, hx102_0, hx102_1, hx102_2⟩ := at_T55 (R_reads' HO_0.out).2.2 x6_1 p102 q102
         cases e102
         replace p102 := eq_true p102;replace q102 := eq_true q102;go_wp2_with (first | ((with_reducible refine gate_dst (N := 7) rfl ?_); refine box_event ?hg (N := 7) ?hd (cs := #[.int .i64 0, .int .i64 0, .string (⟨#[]⟩ : ByteArray)]) (t := 55) ?hr ?_; (case hd => rfl); (case hg => rfl); (case hr => first | (go_simp; done) | (go_simp; rfl)); intro gb103 hg w18 hbox hb; replace HO_0 := Am (R_below (R_elderB (zR HO_0) gb103 (Nat.le_of_eq hg.symm)) hb);have BK103 := Am (hbox);have GW103 := Am ((by rw [hg]; exact (by first | exact HK.out.1 | exact (show Kept w _ (fun k_ => P0_ k_) from by repeat (first | (with_reducible first | exact HK.out | apply Kept.alloc | apply Kept.drewN | apply Kept.drew) | exact HK.out)).1) : w.heap.size ≤ gb103));replace HK := Am (Kept.below (S := (fun k_ => P0_ k_)) (by repeat (first | (with_reducible first | exact HK.out | apply Kept.alloc | apply Kept.drewN | apply Kept.drew) | exact HK.out)) hb);have GE103 := Am ((by rw [hg]; exact (below_size (zB HB)) : w0.heap.size ≤ gb103));replace HB := Am (below_step (zB HB) hb); clear hb hbox hg; obtain ⟨hcz19_0, hcz19_1, hcz19_2, hfz19_0, hfz19_1, hfz19_2⟩ := zc3 BK103) | ((with_reducible refine gate_value (x := .tmp 26) rfl ?_); refine goesV_ (some 28) rfl rfl Tryd.func70 (by kernel_rfl) rfl #[.agg #[.int .i64 ((rd_T55 x0_1 x6_1).f0), .int .i64 ((rd_T55 x0_1 x6_1).f1), .string ((rd_T55 x0_1 x6_1).f2)]] rfl rfl zE ?_; (with_reducible refine (normal_empty.calls ((rd_T55 x0_1 x6_1).f0) ((rd_T55 x0_1 x6_1).f1) ((rd_T55 x0_1 x6_1).f2) false _ A10.out).mono ?_); rintro e w20 ⟨rfl, hb⟩; refine ⟨_, rfl, ?_⟩; replace HO_0 := Am (R_below (by (with_reducible repeat (first | apply R_alloc | apply R_drewN | apply R_drew)); exact (R_mono (zY (R_mono HO_0.out (fun k_ hk => (⟨hk, hk.2⟩ : _ ∧ k_ ≠ gb103))) gb103 (fun _ hk => hk.2) (.int .i64 ((rd_T55 x0_1 x6_1).f0)) (.int .i64 ((rd_T55 x0_1 x6_1).f1)) (.string ((rd_T55 x0_1 x6_1).f2))) (fun _ h_ => h_.1))) hb);replace BK103 := Am (blk_below (g := gb103) (o := .cells #[.int .i64 ((rd_T55 x0_1 x6_1).f0), .int .i64 ((rd_T55 x0_1 x6_1).f1), .string ((rd_T55 x0_1 x6_1).f2)] 55 (0, 0)) (zP BK103) hb);replace HK := Am (Kept.below (S := (fun k_ => P0_ k_)) (by repeat (first | (with_reducible first | exact HK.out | apply Kept.alloc | apply Kept.drewN | apply Kept.drew | refine Kept.setCell ?_ (.inr GW103.out) _) | exact HK.out)) hb);replace HB := Am (below_step (zB HB) hb); (try clear hb); obtain ⟨hcz21_0, hcz21_1, hcz21_2, hfz21_0, hfz21_1, hfz21_2⟩ := zc3 BK103; have p17 : 0 ≤ (x5_1 : Int) := of_decide_eq_true (by assumption); have q17 : (x5_1 : Int) < ((x0_1.length : Int) : Int) := of_decide_eq_true (by assumption); obtain ⟨go17, co17, eo17, gb17, gl17, cl17, HG17⟩ := R_form HO_0.out (by omega); (first | cases eo17 | (injection eo17 with ea_ en_ ec_; (first | subst ea_ | (injection ea_ with ea_; subst ea_)); subst ec_; clear en_)); have GB17 := Am gb17; have GG17 := Am HG17; clear gb17 gl17 HG17; have HMgo17 := Am (show (P0_ go17 ∨ w.heap.size ≤ go17) from (HO_0.out.1 _ rfl).1); (first | simp only [add_plain] at hx102_0 | skip); (first | simp only [add_plain] at hx102_1 | skip); (first | simp only [add_plain] at hx102_2 | skip); obtain ⟨ce17, hcl17, hM17, hcc17, hfr17⟩ := R_elem HO_0.out z55 (x5_1 : Int) p17 q17; obtain rfl := k55_openM hM17; have hx17_0 : w20.cell? ⟨go17, (x5_1 : Int).toNat * 3, none⟩ = some (.int .i64 ((rd_T55 x0_1 x5_1).f0)) := hcc17 0 _ rfl; have hx17_1 : w20.cell? ⟨go17, (x5_1 : Int).toNat * 3 + 1, none⟩ = some (.int .i64 ((rd_T55 x0_1 x5_1).f1)) := hcc17 1 _ rfl; have hx17_2 : w20.cell? ⟨go17, (x5_1 : Int).toNat * 3 + 2, none⟩ = some (.string ((rd_T55 x0_1 x5_1).f2)) := hcc17 2 _ rfl; have hf17_0 : w20.frozen? ⟨go17, (x5_1 : Int).toNat * 3, none⟩ = false := hfr17 0; have hf17_1 : w20.frozen? ⟨go17, (x5_1 : Int).toNat * 3 + 1, none⟩ = false := hfr17 1; have hf17_2 : w20.frozen? ⟨go17, (x5_1 : Int).toNat * 3 + 2, none⟩ = false := hfr17 2; clear hcl17 hcc17 hfr17 hM17; replace p17 := eq_true p17; replace q17 := eq_true q17; have HX22 := Am (show Kd.R k55 55 w20 w0.heap.size (fun k_ => (P0_ k_ ∨ w.heap.size ≤ k_) ∧ k_ ≠ gb103) (.slice (some ⟨go17, 0, none⟩) x0_1.length co6) x0_1 from (zR HO_0)); obtain ⟨ce22, hcl22, hM22, hcc22, hfr22⟩ := R_elem HX22.out z55 (x5_1 : Int) (of_decide_eq_true (by assumption)) (by have h_ : (x5_1 : Int) < ((x0_1.length : Int) : Int) := of_decide_eq_true (by assumption); first | exact h_ | (have e_ := (R_reads' HO_0.out).1; omega) | simpa using h_); obtain rfl := k55_openM hM22; have HP22 := R_seg HX22.out (x5_1 : Int) (of_decide_eq_true (by assumption)) (by have h_ : (x5_1 : Int) < ((x0_1.length : Int) : Int) := of_decide_eq_true (by assumption); first | exact h_ | (have e_ := (R_reads' HO_0.out).1; omega) | simpa using h_) (seg := [.int .i64 ((rd_T55 x0_1 x6_1).f0), .int .i64 ((rd_T55 x0_1 x6_1).f1), .string ((rd_T55 x0_1 x6_1).f2)]) (j := 0) hcl22 hcc22 (show 3 ≤ 3 from by decide) (x' := (⟨(rd_T55 x0_1 x6_1).f0, (rd_T55 x0_1 x6_1).f1, (rd_T55 x0_1 x6_1).f2⟩ : S55)) (k55_mkM _ _ _ (⟨(rd_T55 x0_1 x6_1).f0, (rd_T55 x0_1 x6_1).f1, (rd_T55 x0_1 x6_1).f2⟩ : S55) ) (fun _ hk => hk); have hx22_0 := hcc22 0 _ rfl; (try simp only [show (k55).sz = 3 from rfl, Nat.mul_one, Nat.add_zero] at hx22_0); have hf22_0 := hfr22 0; (try simp only [show (k55).sz = 3 from rfl, Nat.mul_one, Nat.add_zero] at hf22_0); have hx22_1 := hcc22 1 _ rfl; (try simp only [show (k55).sz = 3 from rfl, Nat.mul_one, Nat.add_zero] at hx22_1); have hf22_1 := hfr22 1; (try simp only [show (k55).sz = 3 from rfl, Nat.mul_one, Nat.add_zero] at hf22_1); have hx22_2 := hcc22 2 _ rfl; (try simp only [show (k55).sz = 3 from rfl, Nat.mul_one, Nat.add_zero] at hx22_2); have hf22_2 := hfr22 2; (try simp only [show (k55).sz = 3 from rfl, Nat.mul_one, Nat.add_zero] at hf22_2); clear hcl22 hcc22 hfr22 hM22) | ((with_reducible refine gate_store (t := 55) (p := 33) rfl ?_); refine store_event (t := 55) (p := 33) (v := ?vo_w23) (w1 := (((w20.setCell ⟨go17, (x5_1 : Int).toNat * 3, none⟩ (.int .i64 ((rd_T55 x0_1 x6_1).f0))).setCell ⟨go17, (x5_1 : Int).toNat * 3 + 1, none⟩ (.int .i64 ((rd_T55 x0_1 x6_1).f1))).setCell ⟨go17, (x5_1 : Int).toNat * 3 + 2, none⟩ (.string ((rd_T55 x0_1 x6_1).f2)))) ?hg ?ho ?hn ?hr ?_; (case ho => rfl); (case hg => rfl); (case hn => rfl); (case hr => first | (go_simp; done) | (go_simp; rfl)); intro w23 hw; have hg : w20.grownBy w23 (some go17) := (by rw [hw]; exact HP22.2); have hp_ : Kd.R k55 55 w23 w0.heap.size (fun k_ => (P0_ k_ ∨ w.heap.size ≤ k_) ∧ k_ ≠ gb103) (.slice (some ⟨go17, 0, none⟩) x0_1.length co6) y105 := (by rw [hw, Ny105.out]; exact HP22.1); clear HP22; replace BK103 := Am (zW BK103 hg (R_away HO_0.out (fun _ hk => hk.2)));replace HB := Am ((by rw [hw]; exact below_set (below_set (below_set (HB.out) GB17.out) GB17.out) GB17.out : Below w0.heap.size w0 w23));replace HK := Am (Kept.of_grown (S := (fun k_ => P0_ k_)) hg (by repeat (first | (with_reducible first | exact HK.out | apply Kept.alloc | apply Kept.drewN | apply Kept.drew | refine Kept.setCell ?_ (.inr GW103.out) _) | exact HK.out)) (fun k_ e_ => (HO_0.out.1 k_ e_).1));replace HO_0 := Am (hp_); clear hg hw hp_))
         (try simp only [← hl0_1])
         go_roundg k1
         case measure => have := HK1.out; omega
         case rel => exact ⟨(y105), (wrap64 (x5_1 + 1)), (wrap64 (x6_1 + 1)), zG, zG, H', ⟨by have := HK1.out; omega⟩, ⟨by (try simp only [hl0_1]); (with_reducible repeat (first | apply R_alloc | apply R_drewN | apply R_drew)); exact R_mono HO_0.out (fun _ hk => hk.1)⟩, ⟨by repeat (first | (with_reducible first | exact HK.out | apply Kept.alloc | apply Kept.drewN | apply Kept.drew | refine Kept.setCell ?_ (.inr GW103.out) _) | exact HK.out)⟩, ⟨(zB HB)⟩⟩
        ·rw [if_neg c16] at H;exact absurd H (by simp)
       ·rw [if_neg c15] at H;exact absurd H (by simp)
     ·rw [if_neg c9] at H;exact absurd H (by simp)
    ·rw [if_neg c8] at H;have c8b0 : decide (x6_1 < (x0_1.length : Int)) = false := decide_eq_false c8
     clear c8;by_cases c24 : 0 ≤ x5_1
     ·rw [if_pos c24] at H;have c24b0 := eq_true c24
      have c24b1 : decide (0 ≤ x5_1) = true := decide_eq_true c24
      clear c24;by_cases c25 : x5_1 ≤ (x0_1.length : Int)
      ·rw [if_pos c25] at H;have c25b0 := eq_true c25
       have c25b1 : decide (x5_1 ≤ (x0_1.length : Int)) = true := decide_eq_true c25
       clear c25;obtain ⟨y106, hy106⟩ : ∃ y_ : List (S55), y_ = (x0_1.take (x5_1 : Int).toNat) := ⟨_, rfl⟩
       replace H : (some y106) = some r := by first | (rw [hy106]; with_reducible exact H) | (have H2_ := (Option.bind_some _ _).symm.trans H; rw [hy106]; with_reducible exact H2_) | (have H2_ := (Option.bind_some _ _).symm.trans H; with_reducible exact H2_) | with_reducible exact H | (rw [hy106]; exact H) | exact H
       have Ny106 := Am hy106;clear hy106;obtain rfl := Option.some.inj H;have q26 : (x5_1 : Int) ≤ ((x0_1.length : Int) : Int) := of_decide_eq_true (by assumption)
       obtain ⟨i026, hi026, _, hsz26, _⟩ := info_parts info55
       have hcut26 := cut_to (P := Tryd.prog) 22 55 .i64 Tryd.underlying22 hi026 Ao6 x0_1.length co6 x5_1 (of_decide_eq_true (by assumption)) q26 (R_reads' HO_0.out).2.1
       have hy26 : y106.length = (x5_1 : Int).toNat := (by rw [Ny106.out, List.length_take]; omega)
       rw [← hy26] at hcut26
       have HY26 := Am hy26;clear hy26 hi026 hsz26;obtain ⟨i0c, hi0c, _, hszc, _⟩ := info_parts info55
       have hcutc := cut_from (P := Tryd.prog) 22 55 .i64 Tryd.underlying22 hi0c 3 hszc Ao6 x0_1.length co6 x5_1 (of_decide_eq_true (by assumption)) q26
       obtain ⟨Acl, hAcl⟩ : ∃ A1, A1 = (if co6 = x5_1.toNat then Ao6 else (Ao6 : Option Addr).map (·.add (x5_1.toNat * 3))) := ⟨_, rfl⟩
       rw [← hAcl] at hcutc
       have HAcl := Am hAcl;clear hi0c hszc hAcl;have JC := Am (show x5_1.toNat ≤ x0_1.length by have := q26; omega)
       replace q26 := eq_true q26;go_wp2_with ((with_reducible refine gate_builtin (b := .clear) (xs := #[.tmp 38]) rfl ?_); refine R_clear_tail k55 w0.heap.size rfl (.tmp 38) 22 55 (by decide) rfl rfl Tryd.underlying22 (.agg #[.int .i64 0, .int .i64 0, .string ⟨#[]⟩]) (fun _ => by kernel_rfl) rfl (by decide) x0_1 Ao6 x0_1.length co6 x5_1.toNat _ JC.out Acl HAcl.out rfl HO_0.out HB.out (Below.size HB.out) ?_; intro wc hoc hbc hgc; rw [← Ny106.out, ← HY26.out] at hoc; have HO108 := Am hoc;replace HB := Am hbc;replace HK := Am (Kept.of_grown (S := (fun k_ => P0_ k_)) hgc HK.out (fun k_ e_ => by first | exact hoc.1 k_ e_ | exact hoc.1 k_ (by rw [HY26.out]; exact e_)));clear HO_0 hoc hbc hgc)
       go_ret
       exact ⟨_, zF, (zR HO108), (zB HB), by repeat (first | (with_reducible first | exact HK.out | apply Kept.alloc | apply Kept.drewN | apply Kept.drew) | exact HK.out)⟩
      ·rw [if_neg c25] at H;exact absurd H (by simp)
     ·rw [if_neg c24] at H;exact absurd H (by simp)
end Go.Proofs.YtekjfodfedpioaaDoor.F
end
section
namespace Go.Proofs.YtekjfodfedpioaaDoor.F
open Go.RowKit Go.Proofs.YtekjfodfedpioaaDoorW.PrintWords Go.Proofs.YtekjfodfedpioaaDoorW.PrintLast Go.Proofs.YtekjfodfedpioaaDoorW.PrintMore
attribute [local go_sem] max2_int min2_int max_two min_two max_three min_three max_four min_four cell_setCell_isSome
set_option linter.unusedVariables false
set_option linter.unusedSimpArgs false
open Kd
def normal_Of.l0 : Nat → List (S55) → Int → Int → Int → Option ((List (S55)))
  | 0, _, _, _, _ => none
  | k + 1, x3, x4, x16, x17 => if x17 < x16 then (if 0 ≤ x17 then (if x17 < (x3.length : Int) then (if x17 = 0 then (normal_Of.l0 k x3 x4 x16 (wrap64 (x17 + 1))) else (if 0 ≤ x4 then (if x4 < (x3.length : Int) then (if ((rd_T55 x3 x17).f0) = ((rd_T55 x3 x4).f0) then ((some (x3.set (x4 : Int).toNat (⟨(rd_T55 x3 x4).f0, wrap64 (((rd_T55 x3 x4).f1) + ((rd_T55 x3 x17).f1)), (rd_T55 x3 x4).f2⟩ : S55) : List (S55))).bind fun y117 => (if ((rd_T55 y117 x4).f2).size + ((rd_T55 x3 x17).f2).size ≤ 9223372036854775807 then (normal_Of.l0 k (y117.set (x4 : Int).toNat (⟨(rd_T55 y117 x4).f0, (rd_T55 y117 x4).f1, ((rd_T55 y117 x4).f2) ++ ((rd_T55 x3 x17).f2)⟩ : S55)) x4 x16 (wrap64 (x17 + 1))) else (none))) else (if 0 ≤ (wrap64 (x4 + 1)) then (if (wrap64 (x4 + 1)) < (x3.length : Int) then (normal_Of.l0 k (x3.set ((wrap64 (x4 + 1)) : Int).toNat (⟨(rd_T55 x3 x17).f0, (rd_T55 x3 x17).f1, (rd_T55 x3 x17).f2⟩ : S55)) (wrap64 (x4 + 1)) x16 (wrap64 (x17 + 1))) else (none)) else (none))) else (none)) else (none))) else (none)) else (none)) else (if 0 ≤ (mn (wrap64 (x4 + 1)) (x3.length : Int)) then (if (mn (wrap64 (x4 + 1)) (x3.length : Int)) ≤ (x3.length : Int) then (some (x3.take ((mn (wrap64 (x4 + 1)) (x3.length : Int)) : Int).toNat)) else (none)) else (none))
def normal_Of.f (k : Nat) (l0 : List (S55)) : Option ((List (S55))) := (some (([] : List (S55)) : List (S55))).bind fun y101 => (if y101.length + l0.length < 4398046511104 then ((api_Span_69.f k (y101 ++ l0)).bind fun t107 => (normal_Of.l0 k t107 0 (t107.length : Int) 0)) else (none))
theorem normal_Of.mono_l : ∀ k, (∀ y0 y1 y2 y3, LeO (normal_Of.l0 k y0 y1 y2 y3) (normal_Of.l0 (k + 1) y0 y1 y2 y3))
  | 0 => fun _ _ _ _ r h => by simp [normal_Of.l0] at h
  | k + 1 => by
    have ih0 := normal_Of.mono_l k
    · intro y0 y1 y2 y3
      unfold normal_Of.l0
      repeat' first
      | (with_reducible exact ih0 _ _ _ _)
      | (with_reducible exact api_Span_69.mono _ _)
      | (with_reducible exact LeO.refl _)
      | (with_reducible exact LeO.none _)
      | (with_reducible refine LeO.ite ?_ ?_)
      | (with_reducible refine LeO.bind ?_ (fun _ => ?_))
      | exact ih0 _ _ _ _
      | exact api_Span_69.mono _ _
      | exact LeO.none _
      | refine LeO.ite ?_ ?_
      | refine LeO.bind ?_ (fun _ => ?_)
theorem normal_Of.mono : ∀ a0 k, LeO (normal_Of.f k a0) (normal_Of.f (k + 1) a0) := by
  intro a0 k
  have ih0 := normal_Of.mono_l k
  unfold normal_Of.f
  repeat' first
      | (with_reducible exact ih0 _ _ _ _)
      | (with_reducible exact api_Span_69.mono _ _)
      | (with_reducible exact LeO.refl _)
      | (with_reducible exact LeO.none _)
      | (with_reducible refine LeO.ite ?_ ?_)
      | (with_reducible refine LeO.bind ?_ (fun _ => ?_))
      | exact ih0 _ _ _ _
      | exact api_Span_69.mono _ _
      | exact LeO.none _
      | refine LeO.ite ?_ ?_
      | refine LeO.bind ?_ (fun _ => ?_)
def normal_Of.T11 : Bool × List (List Nat × List Nat) := (true, [([], []), ([0], [0]), ([], []), ([], []), ([2, 3], [2, 3]), ([4], [4]), ([5], [5]), ([1, 6], [1, 6]), ([7], [7])])
def normal_Of.B11 : List Nat := [0, 1, 0, 0, 12, 28, 60, 127, 255]
theorem normal_Of.tab11 : rtab .any (opsOf Tryd.f44 11) = normal_Of.T11 := by kernel_rfl
theorem normal_Of.bits11 : waitsOk normal_Of.T11.2 normal_Of.B11 = true := by kernel_rfl
def normal_Of.T12 : Bool × List (List Nat × List Nat) := (true, [([], []), ([], []), ([0, 1], [0, 1]), ([2], [2]), ([3], [3]), ([], []), ([5], [5]), ([4, 6], [4, 6]), ([0, 1, 0, 1, 2, 3, 4, 5, 6, 7], [0, 1]), ([8, 0, 1, 2, 3, 4, 5, 6, 7], [8]), ([9, 7, 0, 1, 2, 3, 4, 5, 6, 7], [7, 9])])
def normal_Of.B12 : List Nat := [0, 0, 3, 7, 15, 0, 32, 127, 255, 511, 1023]
theorem normal_Of.tab12 : rtab .any (opsOf Tryd.f44 12) = normal_Of.T12 := by kernel_rfl
theorem normal_Of.bits12 : waitsOk normal_Of.T12.2 normal_Of.B12 = true := by kernel_rfl
def normal_Of.T13 : Bool × List (List Nat × List Nat) := (true, [([], []), ([], []), ([0, 1], [0, 1]), ([2], [2]), ([3], [3]), ([], []), ([5], [5]), ([4, 6], [4, 6]), ([0, 1, 0, 1, 2, 3, 4, 5, 6, 7], [0, 1]), ([8, 0, 1, 2, 3, 4, 5, 6, 7], [8]), ([9, 7, 0, 1, 2, 3, 4, 5, 6, 7], [7, 9])])
def normal_Of.B13 : List Nat := [0, 0, 3, 7, 15, 0, 32, 127, 255, 511, 1023]
theorem normal_Of.tab13 : rtab .any (opsOf Tryd.f44 13) = normal_Of.T13 := by kernel_rfl
theorem normal_Of.bits13 : waitsOk normal_Of.T13.2 normal_Of.B13 = true := by kernel_rfl
set_option maxHeartbeats 40000000 in
set_option maxRecDepth 100000 in
theorem normal_Of.calls (k : Nat) (A0 : Option Addr) (c0 : Nat) (l0 : List (S55)) (r : List (S55)) (w : World) (hr0 : Kd.C k55 w A0 l0.length l0) (hc0 : l0.length ≤ c0) (h : normal_Of.f k l0 = some r) :
  Calls Tryd.prog 44 #[.slice A0 l0.length c0] w fun e w' => ∃ v0_ : Value, e = .returned (v0_) ∧ Kd.R k55 55 w' w.heap.size (fun _ => True) v0_ r ∧ Below w.heap.size w w' := by
 have hu55 := Tryd.underlying55
 have HR0 := Am hr0;have HC0 := Am hc0;clear hr0 hc0;have HB := Am (Below.refl w.heap.size w)
 have H : ((some (([] : List (S55)) : List (S55))).bind fun y101 => (if y101.length + l0.length < 4398046511104 then ((api_Span_69.f k (y101 ++ l0)).bind fun t107 => (normal_Of.l0 k t107 0 (t107.length : Int) 0)) else (none))) = some r := h
 clear h;obtain ⟨y101, hy101⟩ : ∃ y_ : List (S55), y_ = (([] : List (S55))) := ⟨_, rfl⟩
 replace H := bind_named H hy101
 have Ny101 := Am hy101;clear hy101;by_cases c2 : y101.length + l0.length < 4398046511104
 ·rw [if_pos c2] at H;have LMc2 := Am c2;clear c2;obtain ⟨y104, hy104⟩ : ∃ y_ : List (S55), y_ = (y101 ++ l0) := ⟨_, rfl⟩
  replace H : ((api_Span_69.f k y104).bind fun t107 => (normal_Of.l0 k t107 0 (t107.length : Int) 0)) = some r := by first | (rw [hy104]; with_reducible exact H) | (have H2_ := (Option.bind_some _ _).symm.trans H; rw [hy104]; with_reducible exact H2_) | (have H2_ := (Option.bind_some _ _).symm.trans H; with_reducible exact H2_) | with_reducible exact H | (rw [hy104]; exact H) | exact H
  have Ny104 := Am hy104;clear hy104;replace H := Option.bind_eq_some_iff.mp H;obtain ⟨t107, A30, H⟩ := H;replace H : (normal_Of.l0 k t107 0 (t107.length : Int) 0) = some r := H
  have A3 := Am A30;clear A30;have H' := Am H
  clear H;go_enter Tryd.func44, Tryd.ntmps44
  go_wp2_with (first | ((with_reducible refine gate_make (t := 22) (x := .tmp 8) (y := .tmp 8) rfl ?_); refine R_make k55 (w0 := w) w.heap.size 55 rfl rfl 22 (.tmp 8) (.tmp 8) rfl (l0.length : Int) rfl rfl Tryd.underlying22 (.agg #[(.int .i64 0), (.int .i64 0), (.string ⟨#[]⟩)]) 32 info55 rfl (by decide) (by decide) (⟨0, 0, ⟨#[]⟩⟩ : S55) (ok := fun _ => True) (okp := fun _ => True) ?hz (fun _ h => h) trivial (by omega) ?aL ?aB ?aS ?_; (case hz => exact k55_mkM _ _ _ (⟨0, 0, ⟨#[]⟩⟩ : S55)); (case aL => have := LMc2.out; omega); (case aB => exact (zB HB)); (case aS => exact (below_size (zB HB))); intro v102m w4m ho5 hb hg_ hnew_; clear hg_ hnew_; have HO103 := Am ho5;replace HB := Am hb; clear hb ho5) | ((with_reducible refine gate_builtin (b := .copy) (xs := #[.tmp 10, .tmp 11]) rfl ?_); refine R_copy_rows k55 (w0 := w) w.heap.size rfl (.tmp 10) (.tmp 11) 22 22 55 (by decide) rfl Tryd.underlying22 (info_size info55) v102m (List.replicate ((l0.length : Int)).toNat (⟨0, 0, ⟨#[]⟩⟩ : S55)) l0 A0 l0.length c0 (fun _ => True) (fun _ => False) rfl rfl ?aO ?aR (by simp) (fun _ _ h => h) (fun _ h => h.elim) ?aB ?aS ?_; (case aR => exact zI (C_below HR0.out HB.out)); (case aB => exact (zB HB)); (case aO => exact (zR HO103)); (case aS => exact (below_size (zB HB))); intro w6m ho hb hg; have hyy : l0 = y104 := (by rw [Ny104.out, Ny101.out]; rfl); rw [hyy] at ho; clear hyy; replace HB := Am hb;have HO106 := Am ho;clear HO103; clear ho hb hg; obtain ⟨Ao7, co7, eo7⟩ := R_slice HO106.out; subst eo7) | ((with_reducible refine gate_callee (f := 69) rfl ?_); refine goesL_ (some 14) rfl rfl Tryd.func69 (by kernel_rfl) rfl #[.slice Ao7 y104.length co7, .func (.func 70) #[] #[]] rfl zE ?_; (with_reducible refine (api_Span_69.calls k (fun k_ => some k_ = (.slice Ao7 y104.length co7 : Value).ownBlock) (.slice Ao7 y104.length co7) y104 t107 w _ ?side1 ?side2 A3.out).mono ?_); (case side1 => repeat (first | (with_reducible first | exact HB.out | apply below_alloc | apply pw_below_drewN | apply below_drew1))); (case side2 => exact R_tight rfl HO106.out); rintro e w8 ⟨v108, rfl, ho0, hb, hkp⟩; refine ⟨_, rfl, ?_⟩; have HO109 := Am (R_mono (ok' := fun k_ => True) ho0 (fun k_ hk_ => trivial));replace HB := Am (hb);clear HO106; (try clear hb); (try clear hkp); (try clear ho0); obtain ⟨Ao9, co9, eo9⟩ := R_slice HO109.out; subst eo9))
  go_loopg [4, 17] k (fun kq v4 v17 w' => ∃ (x3_1 : List (S55)) (x4_1 : Int) (x17_1 : Int), v4 = .int .i64 x4_1 ∧ v17 = .int .i64 x17_1 ∧ Aside0 (normal_Of.l0 kq x3_1 x4_1 (t107.length : Int) x17_1 = some r) ∧ Aside0 (kq ≤ k) ∧ Aside0 (Kd.R k55 55 w' w.heap.size (fun _ => True) (.slice Ao9 t107.length co9) x3_1) ∧ Aside0 (Below w.heap.size w w'))
  case atStart => exact ⟨(t107), (0), (0), zG, zG, H', ⟨Nat.le_refl _⟩, ⟨(zR HO109)⟩, ⟨(zB HB)⟩⟩
  case round =>
   clear H';(try clear c2);(try clear p2);(try clear c4);(try clear c6);obtain ⟨x3_1, x4_1, x17_1, rfl, rfl, HA, HK1, HO_3, HB⟩ := hrel
   have hl3_1 := (R_reads' HO_3.out).1
   rw [hl3_1] at HO_3
   (try simp only [hl3_1])
   cases gk with
   | zero => exact absurd HA.out (by simp [normal_Of.l0])
   | succ k1 =>
    have H := HA.out;clear HA;simp only [normal_Of.l0] at H
    by_cases c10 : x17_1 < (t107.length : Int)
    ·rw [if_pos c10] at H;have c10b0 : decide (x17_1 < (t107.length : Int)) = true := decide_eq_true c10
     clear c10;by_cases c11 : 0 ≤ x17_1
     ·rw [if_pos c11] at H;have c11b0 : decide (0 ≤ x17_1) = true := decide_eq_true c11
      clear c11;by_cases c12 : x17_1 < (x3_1.length : Int)
      ·rw [if_pos c12] at H;have c12b0 : decide (x17_1 < (x3_1.length : Int)) = true := decide_eq_true c12
       clear c12;by_cases c13 : x17_1 = 0
       ·rw [if_pos c13] at H;have c13b0 : (x17_1 == 0) = true := beq_iff_eq.mpr c13
        have c13b1 : (x17_1 != 0) = false := bne_eq_false_iff_eq.mpr c13
        clear c13;have H' := Am H
        clear H;have p113 : 0 ≤ (x17_1 : Int) := of_decide_eq_true (by assumption)
        have q113 : x17_1 < (x3_1.length : Int) := of_decide_eq_true (by assumption)
        obtain ⟨ad113, e113, hx113_0, hx113_1, hx113_2⟩ := at_T55 (R_reads' HO_3.out).2.2 x17_1 p113 q113
        cases e113
        replace p113 := eq_true p113;replace q113 := eq_true q113;go_wp2_with (first | ((with_reducible refine gate_dst (N := 6) rfl ?_); refine box_event ?hg (N := 6) ?hd (cs := #[.int .i64 0, .int .i64 0, .string (⟨#[]⟩ : ByteArray)]) (t := 55) ?hr ?_; (case hd => rfl); (case hg => rfl); (case hr => first | (go_simp; done) | (go_simp; rfl)); intro gb114 hg w14 hbox hb; replace HO_3 := Am (R_below (R_elderB (zR HO_3) gb114 (Nat.le_of_eq hg.symm)) hb);have BK114 := Am (hbox);have GW114 := Am (zO (w := w) HB hg);have GE114 := Am (zO (w := w) HB hg);replace HB := Am (below_step (zB HB) hb); clear hb hbox hg; obtain ⟨hcz15_0, hcz15_1, hcz15_2, hfz15_0, hfz15_1, hfz15_2⟩ := zc3 BK114))
        (try simp only [← hl3_1])
        go_roundg k1
        case measure => have := HK1.out; omega
        case rel => exact ⟨(x3_1), (x4_1), (wrap64 (x17_1 + 1)), zG, zG, H', ⟨by have := HK1.out; omega⟩, ⟨by (try simp only [hl3_1]); (with_reducible repeat (first | apply R_alloc | apply R_drewN | apply R_drew)); exact R_mono (zY (R_mono HO_3.out (fun k_ hk => (⟨hk, hk.2⟩ : _ ∧ k_ ≠ gb114))) gb114 (fun _ hk => hk.2) (.int .i64 ((rd_T55 x3_1 x17_1).f0)) (.int .i64 ((rd_T55 x3_1 x17_1).f1)) (.string ((rd_T55 x3_1 x17_1).f2))) (fun _ hk => trivial)⟩, ⟨(zB HB)⟩⟩
       ·rw [if_neg c13] at H;have c13b0 : (x17_1 == 0) = false := beq_eq_false_iff_ne.mpr c13
        have c13b1 : (x17_1 != 0) = true := bne_iff_ne.mpr c13
        by_cases c16 : 0 ≤ x4_1
        ·rw [if_pos c16] at H;have c16b0 : decide (0 ≤ x4_1) = true := decide_eq_true c16
         clear c16;by_cases c17 : x4_1 < (x3_1.length : Int)
         ·rw [if_pos c17] at H;have c17b0 : decide (x4_1 < (x3_1.length : Int)) = true := decide_eq_true c17
          clear c17;by_cases c18 : ((rd_T55 x3_1 x17_1).f0) = ((rd_T55 x3_1 x4_1).f0)
          ·rw [if_pos c18] at H;have c18b0 : (((rd_T55 x3_1 x17_1).f0) == ((rd_T55 x3_1 x4_1).f0)) = true := beq_iff_eq.mpr c18
           have c18b1 : (((rd_T55 x3_1 x17_1).f0) != ((rd_T55 x3_1 x4_1).f0)) = false := bne_eq_false_iff_eq.mpr c18
           clear c18;obtain ⟨y117, hy117⟩ : ∃ y_ : List (S55), y_ = (x3_1.set (x4_1 : Int).toNat (⟨(rd_T55 x3_1 x4_1).f0, wrap64 (((rd_T55 x3_1 x4_1).f1) + ((rd_T55 x3_1 x17_1).f1)), (rd_T55 x3_1 x4_1).f2⟩ : S55)) := ⟨_, rfl⟩
           replace H : (if ((rd_T55 y117 x4_1).f2).size + ((rd_T55 x3_1 x17_1).f2).size ≤ 9223372036854775807 then (normal_Of.l0 k1 (y117.set (x4_1 : Int).toNat (⟨(rd_T55 y117 x4_1).f0, (rd_T55 y117 x4_1).f1, ((rd_T55 y117 x4_1).f2) ++ ((rd_T55 x3_1 x17_1).f2)⟩ : S55)) x4_1 (t107.length : Int) (wrap64 (x17_1 + 1))) else (none)) = some r := by first | (rw [hy117]; with_reducible exact H) | (have H2_ := (Option.bind_some _ _).symm.trans H; rw [hy117]; with_reducible exact H2_) | (have H2_ := (Option.bind_some _ _).symm.trans H; with_reducible exact H2_) | with_reducible exact H | (rw [hy117]; exact H) | exact H
           have Ny117 := Am hy117;clear hy117;by_cases c20 : ((rd_T55 y117 x4_1).f2).size + ((rd_T55 x3_1 x17_1).f2).size ≤ 9223372036854775807
           ·rw [if_pos c20] at H;have c20b0 := eq_true c20
            have c20b1 : decide (((rd_T55 y117 x4_1).f2).size + ((rd_T55 x3_1 x17_1).f2).size ≤ 9223372036854775807) = true := decide_eq_true c20
            try have c20b2 : (9223372036854775807 < ((rd_T55 y117 x4_1).f2).size + ((rd_T55 x3_1 x17_1).f2).size) = False := eq_false (Nat.not_lt.2 c20)
            obtain ⟨y119, hy119⟩ : ∃ y_ : List (S55), y_ = (y117.set (x4_1 : Int).toNat (⟨(rd_T55 y117 x4_1).f0, (rd_T55 y117 x4_1).f1, ((rd_T55 y117 x4_1).f2) ++ ((rd_T55 x3_1 x17_1).f2)⟩ : S55)) := ⟨_, rfl⟩
            replace H : (normal_Of.l0 k1 y119 x4_1 (t107.length : Int) (wrap64 (x17_1 + 1))) = some r := by first | (rw [hy119]; with_reducible exact H) | (have H2_ := (Option.bind_some _ _).symm.trans H; rw [hy119]; with_reducible exact H2_) | (have H2_ := (Option.bind_some _ _).symm.trans H; with_reducible exact H2_) | with_reducible exact H | (rw [hy119]; exact H) | exact H
            have Ny119 := Am hy119;clear hy119;have H' := Am H
            clear H;have p113 : 0 ≤ (x17_1 : Int) := of_decide_eq_true (by assumption)
            have q113 : x17_1 < (x3_1.length : Int) := of_decide_eq_true (by assumption)
            obtain ⟨ad113, e113, hx113_0, hx113_1, hx113_2⟩ := at_T55 (R_reads' HO_3.out).2.2 x17_1 p113 q113
            cases e113
            replace p113 := eq_true p113;replace q113 := eq_true q113;try go_wp2_with (first | ((with_reducible refine gate_dst (N := 6) rfl ?_); refine box_event ?hg (N := 6) ?hd (cs := #[.int .i64 0, .int .i64 0, .string (⟨#[]⟩ : ByteArray)]) (t := 55) ?hr ?_; (case hd => rfl); (case hg => rfl); (case hr => first | (go_simp; done) | (go_simp; rfl)); intro gb114 hg w22 hbox hb; replace HO_3 := Am (R_below (R_elderB (zR HO_3) gb114 (Nat.le_of_eq hg.symm)) hb);have BK114 := Am (hbox);have GW114 := Am (zO (w := w) HB hg);have GE114 := Am (zO (w := w) HB hg);replace HB := Am (below_step (zB HB) hb); clear hb hbox hg; obtain ⟨hcz23_0, hcz23_1, hcz23_2, hfz23_0, hfz23_1, hfz23_2⟩ := zc3 BK114))
            have n0_ : Aside0 (Kd.R k55 55 (((w22.setCell ⟨gb114, 0, none⟩ (.int .i64 ((rd_T55 x3_1 x17_1).f0))).setCell ⟨gb114, 1, none⟩ (.int .i64 ((rd_T55 x3_1 x17_1).f1))).setCell ⟨gb114, 2, none⟩ (.string ((rd_T55 x3_1 x17_1).f2))) w.heap.size (fun k_ => k_ ≠ gb114) (.slice (some ad113) x3_1.length co9) x3_1) := ⟨by (with_reducible repeat (first | apply R_alloc | apply R_drewN | apply R_drew)); exact R_mono (zY (R_mono HO_3.out (fun k_ hk => (⟨hk, hk.2⟩ : _ ∧ k_ ≠ gb114))) gb114 (fun _ hk => hk.2) (.int .i64 ((rd_T55 x3_1 x17_1).f0)) (.int .i64 ((rd_T55 x3_1 x17_1).f1)) (.string ((rd_T55 x3_1 x17_1).f2))) (fun _ hk => hk.1.2)⟩
            have n1_ : Aside0 ((((w22.setCell ⟨gb114, 0, none⟩ (.int .i64 ((rd_T55 x3_1 x17_1).f0))).setCell ⟨gb114, 1, none⟩ (.int .i64 ((rd_T55 x3_1 x17_1).f1))).setCell ⟨gb114, 2, none⟩ (.string ((rd_T55 x3_1 x17_1).f2))).heap[gb114]? = some (.cells #[.int .i64 ((rd_T55 x3_1 x17_1).f0), .int .i64 ((rd_T55 x3_1 x17_1).f1), .string ((rd_T55 x3_1 x17_1).f2)] 55 (0, 0))) := ⟨(zP BK114)⟩
            have n2_ : Aside0 (Below w.heap.size w (((w22.setCell ⟨gb114, 0, none⟩ (.int .i64 ((rd_T55 x3_1 x17_1).f0))).setCell ⟨gb114, 1, none⟩ (.int .i64 ((rd_T55 x3_1 x17_1).f1))).setCell ⟨gb114, 2, none⟩ (.string ((rd_T55 x3_1 x17_1).f2)))) := ⟨(zB HB)⟩
            (try clear HO_3);(try clear BK114);(try clear HB);generalize (((w22.setCell ⟨gb114, 0, none⟩ (.int .i64 ((rd_T55 x3_1 x17_1).f0))).setCell ⟨gb114, 1, none⟩ (.int .i64 ((rd_T55 x3_1 x17_1).f1))).setCell ⟨gb114, 2, none⟩ (.string ((rd_T55 x3_1 x17_1).f2))) = w24 at n0_ n1_ n2_ ⊢
            have HO_3 := n0_;have BK114 := n1_;have HB := n2_;clear n0_ n1_ n2_;replace HO_3 := Am (R_drew HO_3.out);replace BK114 := Am (blk_drew BK114.out);replace HB := Am (below_drew1 HB.out);have p115 : 0 ≤ (x4_1 : Int) := of_decide_eq_true (by assumption)
            have q115 : x4_1 < (x3_1.length : Int) := of_decide_eq_true (by assumption)
            obtain ⟨ad115, e115, hx115_0, hx115_1, hx115_2⟩ := at_T55 (R_reads' HO_3.out).2.2 x4_1 p115 q115
            obtain rfl : ad113 = ad115 := (by injection e115)
            replace p115 := eq_true p115;replace q115 := eq_true q115;refine start_ (n := 9) (S := fun w' => w'.cell? ⟨gb114, 0, none⟩ = some (.int .i64 ((rd_T55 x3_1 x17_1).f0)) ∧ w'.cell? ⟨gb114, 1, none⟩ = some (.int .i64 ((rd_T55 x3_1 x17_1).f1)) ∧ w'.cell? ⟨gb114, 2, none⟩ = some (.string ((rd_T55 x3_1 x17_1).f2)) ∧ w'.cell? (ad113.add ((x4_1).toNat * 3)) = some (.int .i64 ((rd_T55 x3_1 x4_1).f0)) ∧ w'.cell? ⟨(ad113.add ((x4_1).toNat * 3)).block, (ad113.add ((x4_1).toNat * 3)).off + 1, none⟩ = some (.int .i64 ((rd_T55 x3_1 x4_1).f1)) ∧ w'.cell? ⟨(ad113.add ((x4_1).toNat * 3)).block, (ad113.add ((x4_1).toNat * 3)).off + 2, none⟩ = some (.string ((rd_T55 x3_1 x4_1).f2))) (ds := []) #[false, false, false, false, false, false, false, false, false] (by kernel_rfl) rfl rfl ⟨(blk_cell BK114.out 0).trans rfl, (blk_cell BK114.out 1).trans rfl, (blk_cell BK114.out 2).trans rfl, hx115_0, hx115_1, hx115_2⟩ (fun hHeld => ?_); refine with_tabW normal_Of.tab11 normal_Of.bits11 (fun HT_ HW_ => ?_)
            generalize w24.drew = w25 at HO_3 BK114 HB hx115_0 hx115_1 hx115_2 hHeld ⊢
            refine pure_ (i := 0) (N := some 32) (v := ?_) (a' := ?_) #[true, false, false, false, false, false, false, false, false] rfl rfl (any_of HT_.out (by kernel_rfl)) (fun _ _ _ h => h) (Or.inl ⟨by rfl, ?_⟩) ?_ ?_
            rotate_left
            ·intro w'
             go_simp;with_reducible rfl
            rotate_left
            ·simp only [Act.put, zS, i64_w, i32_w]
             rfl
            refine pure_ (i := 2) (N := some 34) (v := ?_) (a' := ?_) #[true, false, true, false, false, false, false, false, false] rfl rfl (any_of HT_.out (by kernel_rfl)) (fun _ _ _ h => h) (Or.inl ⟨by rfl, ?_⟩) ?_ ?_
            rotate_left
            ·intro w'
             go_simp;with_reducible rfl
            rotate_left
            ·simp only [Act.put, zS, i64_w, i32_w]
             rfl
            refine pure_ (i := 3) (N := some 35) (v := ?_) (a' := ?_) #[true, false, true, true, false, false, false, false, false] rfl rfl (any_of HT_.out (by kernel_rfl)) (fun _ _ _ h => h) (Or.inl ⟨by rfl, ?_⟩) ?_ ?_
            rotate_left
            ·intro w'
             go_simp;with_reducible rfl
            rotate_left
            ·simp only [Act.put, zS, i64_w, i32_w]
             rfl
            refine pure_ (i := 4) (N := some 36) (v := ?_) (a' := ?_) #[true, false, true, true, true, false, false, false, false] rfl rfl (any_of HT_.out (by kernel_rfl)) (fun _ _ _ h => h) (Or.inl ⟨by rfl, ?_⟩) ?_ ?_
            rotate_left
            ·intro w'
             go_simp;with_reducible rfl
            rotate_left
            ·simp only [Act.put, zS, i64_w, i32_w]
             rfl
            refine pure_ (i := 5) (N := some 37) (v := ?_) (a' := ?_) #[true, false, true, true, true, true, false, false, false] rfl rfl (any_of HT_.out (by kernel_rfl)) (fun _ _ _ h => h) (Or.inl ⟨by rfl, ?_⟩) ?_ ?_
            rotate_left
            ·intro w'
             go_simp;with_reducible rfl
            rotate_left
            ·simp only [Act.put, zS, i64_w, i32_w]
             rfl
            refine take_ (i := 1) (N := some 33) (v := ?_) (a' := ?_) #[true, true, true, true, true, true, false, false, false] rfl rfl (take_ofW HT_.out HW_.out (by kernel_rfl)) (fun _ _ _ h => h) (Or.inl ⟨by rfl, ?_⟩) hHeld ?_ ?_
            rotate_left
            ·rintro w' ⟨s0, s1, s2, s3, s4, s5⟩
             go_simp;with_reducible rfl
            rotate_left
            ·simp only [Act.put, zS, i64_w, i32_w]
             rfl
            refine take_ (i := 6) (N := some 38) (v := ?_) (a' := ?_) #[true, true, true, true, true, true, true, false, false] rfl rfl (take_ofW HT_.out HW_.out (by kernel_rfl)) (fun _ _ _ h => h) (Or.inl ⟨by rfl, ?_⟩) hHeld ?_ ?_
            rotate_left
            ·rintro w' ⟨s0, s1, s2, s3, s4, s5⟩
             go_simp;with_reducible rfl
            rotate_left
            ·simp only [Act.put, zS, i64_w, i32_w]
             rfl
            refine pure_ (i := 7) (N := some 39) (v := ?_) (a' := ?_) #[true, true, true, true, true, true, true, true, false] rfl rfl (any_of HT_.out (by kernel_rfl)) (fun _ _ _ h => h) (Or.inl ⟨by rfl, ?_⟩) ?_ ?_
            rotate_left
            ·intro w'
             go_simp;with_reducible rfl
            rotate_left
            ·simp only [Act.put, zS, i64_w, i32_w]
             rfl
            refine pure_ (i := 8) (N := some 31) (v := ?_) (a' := ?_) #[true, true, true, true, true, true, true, true, true] rfl rfl (any_of HT_.out (by kernel_rfl)) (fun _ _ _ h => h) (Or.inl ⟨by rfl, ?_⟩) ?_ ?_
            rotate_left
            ·intro w'
             go_simp;with_reducible rfl
            rotate_left
            ·simp only [Act.put, zS, i64_w, i32_w]
             rfl
            refine done_ (done_of HT_.out (by kernel_rfl)) ?_
            try go_wp2
            replace HO_3 := Am (R_drew HO_3.out);replace BK114 := Am (blk_drew BK114.out);replace HB := Am (below_drew1 HB.out);have p116 : 0 ≤ (x4_1 : Int) := of_decide_eq_true (by assumption)
            have q116 : x4_1 < (x3_1.length : Int) := of_decide_eq_true (by assumption)
            obtain ⟨ad116, e116, hx116_0, hx116_1, hx116_2⟩ := at_T55 (R_reads' HO_3.out).2.2 x4_1 p116 q116
            obtain rfl : ad113 = ad116 := (by injection e116)
            replace p116 := eq_true p116;replace q116 := eq_true q116;have p19 : 0 ≤ (x4_1 : Int) := of_decide_eq_true (by assumption)
            have q19 : (x4_1 : Int) < ((x3_1.length : Int) : Int) := of_decide_eq_true (by assumption)
            obtain ⟨go19, co19, eo19, gb19, gl19, cl19, HG19⟩ := R_form HO_3.out (by omega)
            (first | cases eo19 | (injection eo19 with ea_ en_ ec_; (first | subst ea_ | (injection ea_ with ea_; subst ea_)); subst ec_; clear en_))
            have GB19 := Am gb19;have GG19 := Am HG19;clear gb19 gl19 HG19;(first | simp only [add_plain] at hx113_0 | skip)
            (first | simp only [add_plain] at hx113_1 | skip)
            (first | simp only [add_plain] at hx113_2 | skip)
            (first | simp only [add_plain] at hx115_0 | skip)
            (first | simp only [add_plain] at hx115_1 | skip)
            (first | simp only [add_plain] at hx115_2 | skip)
            (first | simp only [add_plain] at hx116_0 | skip)
            (first | simp only [add_plain] at hx116_1 | skip)
            (first | simp only [add_plain] at hx116_2 | skip)
            obtain ⟨ce19, hcl19, hM19, hcc19, hfr19⟩ := R_elem HO_3.out z55 (x4_1 : Int) p19 q19
            obtain rfl := k55_openM hM19
            have hx19_0 : World.cell? _ ⟨go19, (x4_1 : Int).toNat * 3, none⟩ = some (.int .i64 ((rd_T55 x3_1 x4_1).f0)) := hcc19 0 _ rfl
            have hx19_1 : World.cell? _ ⟨go19, (x4_1 : Int).toNat * 3 + 1, none⟩ = some (.int .i64 ((rd_T55 x3_1 x4_1).f1)) := hcc19 1 _ rfl
            have hx19_2 : World.cell? _ ⟨go19, (x4_1 : Int).toNat * 3 + 2, none⟩ = some (.string ((rd_T55 x3_1 x4_1).f2)) := hcc19 2 _ rfl
            have hf19_0 : World.frozen? _ ⟨go19, (x4_1 : Int).toNat * 3, none⟩ = false := hfr19 0
            have hf19_1 : World.frozen? _ ⟨go19, (x4_1 : Int).toNat * 3 + 1, none⟩ = false := hfr19 1
            have hf19_2 : World.frozen? _ ⟨go19, (x4_1 : Int).toNat * 3 + 2, none⟩ = false := hfr19 2
            clear hcl19 hcc19 hfr19 hM19;replace p19 := eq_true p19;replace q19 := eq_true q19;obtain ⟨ce27, hcl27, hM27, hcc27, hfr27⟩ := R_elem HO_3.out z55 (x4_1 : Int) (of_decide_eq_true (by assumption)) (by have h_ : (x4_1 : Int) < ((x3_1.length : Int) : Int) := of_decide_eq_true (by assumption); first | exact h_ | (have e_ := (R_reads' HO_3.out).1; omega) | simpa using h_)
            obtain rfl := k55_openM hM27
            have HP27 := (R_seg HO_3.out (x4_1 : Int) (of_decide_eq_true (by assumption)) (by have h_ : (x4_1 : Int) < ((x3_1.length : Int) : Int) := of_decide_eq_true (by assumption); first | exact h_ | (have e_ := (R_reads' HO_3.out).1; omega) | simpa using h_) (seg := [.int .i64 (wrap64 (((rd_T55 x3_1 x4_1).f1) + ((rd_T55 x3_1 x17_1).f1)))]) (j := 1) hcl27 hcc27 (show 2 ≤ 3 from by decide) (x' := (⟨(rd_T55 x3_1 x4_1).f0, wrap64 (((rd_T55 x3_1 x4_1).f1) + ((rd_T55 x3_1 x17_1).f1)), (rd_T55 x3_1 x4_1).f2⟩ : S55)) (k55_mkM _ _ _ (⟨(rd_T55 x3_1 x4_1).f0, wrap64 (((rd_T55 x3_1 x4_1).f1) + ((rd_T55 x3_1 x17_1).f1)), (rd_T55 x3_1 x4_1).f2⟩ : S55) ) (fun _ hk => hk)).1
            rw [← Ny117.out] at HP27
            have HQ27 := Am HP27;clear hcl27 hcc27 hfr27 hM27 HP27;refine start_ (n := 11) (S := fun w' => w'.cell? ⟨gb114, 0, none⟩ = some (.int .i64 ((rd_T55 x3_1 x17_1).f0)) ∧ w'.cell? ⟨gb114, 1, none⟩ = some (.int .i64 ((rd_T55 x3_1 x17_1).f1)) ∧ w'.cell? ⟨gb114, 2, none⟩ = some (.string ((rd_T55 x3_1 x17_1).f2)) ∧ w'.cell? ⟨go19, ((x4_1).toNat * 3), none⟩ = some (.int .i64 ((rd_T55 x3_1 x4_1).f0)) ∧ w'.cell? ⟨go19, ((x4_1).toNat * 3) + 1, none⟩ = some (.int .i64 ((rd_T55 x3_1 x4_1).f1)) ∧ w'.cell? ⟨go19, ((x4_1).toNat * 3) + 2, none⟩ = some (.string ((rd_T55 x3_1 x4_1).f2))) (ds := [10]) #[false, false, false, false, false, false, false, false, false, false, false] (by kernel_rfl) rfl rfl ⟨(blk_cell BK114.out 0).trans rfl, (blk_cell BK114.out 1).trans rfl, (blk_cell BK114.out 2).trans rfl, hx116_0, hx116_1, hx116_2⟩ (fun hHeld => ?_); refine with_tabW normal_Of.tab12 normal_Of.bits12 (fun HT_ HW_ => ?_)
            generalize w25.drew = w26 at HO_3 BK114 HB GG19 HQ27 hf19_0 hf19_1 hf19_2 hx113_0 hx113_1 hx113_2 hx115_0 hx115_1 hx115_2 hx116_0 hx116_1 hx116_2 hx19_0 hx19_1 hx19_2 hHeld ⊢
            refine pure_ (i := 0) (N := some 40) (v := ?_) (a' := ?_) #[true, false, false, false, false, false, false, false, false, false, false] rfl rfl (any_of HT_.out (by kernel_rfl)) (fun _ _ _ h => h) (Or.inl ⟨by rfl, ?_⟩) ?_ ?_
            rotate_left
            ·intro w'
             go_simp;with_reducible rfl
            rotate_left
            ·simp only [Act.put, zS, i64_w, i32_w]
             rfl
            refine pure_ (i := 1) (N := some 41) (v := ?_) (a' := ?_) #[true, true, false, false, false, false, false, false, false, false, false] rfl rfl (any_of HT_.out (by kernel_rfl)) (fun _ _ _ h => h) (Or.inl ⟨by rfl, ?_⟩) ?_ ?_
            rotate_left
            ·intro w'
             go_simp;with_reducible rfl
            rotate_left
            ·simp only [Act.put, zS, i64_w, i32_w]
             rfl
            refine pure_ (i := 2) (N := some 42) (v := ?_) (a' := ?_) #[true, true, true, false, false, false, false, false, false, false, false] rfl rfl (any_of HT_.out (by kernel_rfl)) (fun _ _ _ h => h) (Or.inl ⟨by rfl, ?_⟩) ?_ ?_
            rotate_left
            ·intro w'
             go_simp;with_reducible rfl
            rotate_left
            ·simp only [Act.put, zS, i64_w, i32_w]
             rfl
            refine pure_ (i := 3) (N := some 43) (v := ?_) (a' := ?_) #[true, true, true, true, false, false, false, false, false, false, false] rfl rfl (any_of HT_.out (by kernel_rfl)) (fun _ _ _ h => h) (Or.inl ⟨by rfl, ?_⟩) ?_ ?_
            rotate_left
            ·intro w'
             go_simp;with_reducible rfl
            rotate_left
            ·simp only [Act.put, zS, i64_w, i32_w]
             rfl
            refine pure_ (i := 5) (N := some 45) (v := ?_) (a' := ?_) #[true, true, true, true, false, true, false, false, false, false, false] rfl rfl (any_of HT_.out (by kernel_rfl)) (fun _ _ _ h => h) (Or.inl ⟨by rfl, ?_⟩) ?_ ?_
            rotate_left
            ·intro w'
             go_simp;with_reducible rfl
            rotate_left
            ·simp only [Act.put, zS, i64_w, i32_w]
             rfl
            refine take_ (i := 4) (N := some 44) (v := ?_) (a' := ?_) #[true, true, true, true, true, true, false, false, false, false, false] rfl rfl (take_ofW HT_.out HW_.out (by kernel_rfl)) (fun _ _ _ h => h) (Or.inl ⟨by rfl, ?_⟩) hHeld ?_ ?_
            rotate_left
            ·rintro w' ⟨s0, s1, s2, s3, s4, s5⟩
             go_simp;with_reducible rfl
            rotate_left
            ·simp only [Act.put, zS, i64_w, i32_w]
             rfl
            refine take_ (i := 6) (N := some 46) (v := ?_) (a' := ?_) #[true, true, true, true, true, true, true, false, false, false, false] rfl rfl (take_ofW HT_.out HW_.out (by kernel_rfl)) (fun _ _ _ h => h) (Or.inl ⟨by rfl, ?_⟩) hHeld ?_ ?_
            rotate_left
            ·rintro w' ⟨s0, s1, s2, s3, s4, s5⟩
             go_simp;with_reducible rfl
            rotate_left
            ·simp only [Act.put, zS, i64_w, i32_w]
             rfl
            refine pure_ (i := 7) (N := some 47) (v := ?_) (a' := ?_) #[true, true, true, true, true, true, true, true, false, false, false] rfl rfl (any_of HT_.out (by kernel_rfl)) (fun _ _ _ h => h) (Or.inl ⟨by rfl, ?_⟩) ?_ ?_
            rotate_left
            ·intro w'
             go_simp;with_reducible rfl
            rotate_left
            ·simp only [Act.put, zS, i64_w, i32_w]
             rfl
            refine pure_ (i := 8) (N := some 48) (v := ?_) (a' := ?_) #[true, true, true, true, true, true, true, true, true, false, false] rfl rfl (any_of HT_.out (by kernel_rfl)) (fun _ _ _ h => h) (Or.inl ⟨by rfl, ?_⟩) ?_ ?_
            rotate_left
            ·intro w'
             go_simp;with_reducible rfl
            rotate_left
            ·simp only [Act.put, zS, i64_w, i32_w]
             rfl
            refine pure_ (i := 9) (N := some 49) (v := ?_) (a' := ?_) #[true, true, true, true, true, true, true, true, true, true, false] rfl rfl (any_of HT_.out (by kernel_rfl)) (fun _ _ _ h => h) (Or.inl ⟨by rfl, ?_⟩) ?_ ?_
            rotate_left
            ·intro w'
             go_simp;with_reducible rfl
            rotate_left
            ·simp only [Act.put, zS, i64_w, i32_w]
             rfl
            refine last_ (i := 10) (N := none) #[true, true, true, true, true, true, true, true, true, true, true] rfl rfl (one_of HT_.out (by kernel_rfl)) (by decide) (fun K hK => ?_)
            refine skip_ (w1 := ?_) (by rfl) rfl ?_ ?_
            rotate_left
            ·go_simp;rfl
            refine hK.out _ _ ?_
            clear hK K;refine done_ (done_of HT_.out (by kernel_rfl)) ?_
            try go_wp2
            have n0_ : Aside0 (Kd.R k55 55 (w26.setCell ⟨go19, (x4_1 : Int).toNat * 3 + 1, none⟩ (.int .i64 (wrap64 (((rd_T55 x3_1 x4_1).f1) + ((rd_T55 x3_1 x17_1).f1))))) w.heap.size (fun k_ => k_ ≠ gb114) (.slice (some ⟨go19, 0, none⟩) x3_1.length co9) y117) := ⟨(zR HQ27)⟩
            have n1_ : Aside0 ((w26.setCell ⟨go19, (x4_1 : Int).toNat * 3 + 1, none⟩ (.int .i64 (wrap64 (((rd_T55 x3_1 x4_1).f1) + ((rd_T55 x3_1 x17_1).f1))))).heap[gb114]? = some (.cells #[.int .i64 ((rd_T55 x3_1 x17_1).f0), .int .i64 ((rd_T55 x3_1 x17_1).f1), .string ((rd_T55 x3_1 x17_1).f2)] 55 (0, 0))) := ⟨by (with_reducible repeat (first | refine blk_drewN ?_ _ | refine blk_drew ?_ | refine blk_alloc ?_ _)); refine blk_far ?_ (by have h_ := R_away HO_3.out (fun _ hk => hk); intro e_; exact h_ (by rw [e_]; rfl)) _; (with_reducible repeat (first | refine blk_drewN ?_ _ | refine blk_drew ?_ | refine blk_alloc ?_ _)); exact BK114.out⟩
            have n2_ : Aside0 (Below w.heap.size w (w26.setCell ⟨go19, (x4_1 : Int).toNat * 3 + 1, none⟩ (.int .i64 (wrap64 (((rd_T55 x3_1 x4_1).f1) + ((rd_T55 x3_1 x17_1).f1)))))) := ⟨by repeat (first | (with_reducible first | exact HB.out | apply below_alloc | apply pw_below_drewN | apply below_drew1 | refine below_set ?_ GB19.out | refine below_set ?_ GE114.out) | exact HB.out)⟩
            (try clear HO_3);(try clear BK114);(try clear HB);generalize (w26.setCell ⟨go19, (x4_1 : Int).toNat * 3 + 1, none⟩ (.int .i64 (wrap64 (((rd_T55 x3_1 x4_1).f1) + ((rd_T55 x3_1 x17_1).f1))))) = w28 at n0_ n1_ n2_ ⊢
            have HO_3 := n0_;have BK114 := n1_;have HB := n2_;clear n0_ n1_ n2_;replace HO_3 := Am (R_drew HO_3.out);replace BK114 := Am (blk_drew BK114.out);replace HB := Am (below_drew1 HB.out);have p118 : 0 ≤ (x4_1 : Int) := of_decide_eq_true (by assumption)
            have q118 : x4_1 < (y117.length : Int) := (by have h_ : (x4_1 : Int) < ((x3_1.length : Int) : Int) := of_decide_eq_true (by assumption); first | (have e_ := (R_reads' HO_3.out).1; omega) | simpa only [Ny117.out, List.length_set] using h_)
            have ql118 : ((x4_1 : Int) < ((x3_1.length : Int) : Int)) = True := eq_true (of_decide_eq_true (by assumption))
            obtain ⟨ad118, e118, hx118_0, hx118_1, hx118_2⟩ := at_T55 (R_reads' HO_3.out).2.2 x4_1 p118 q118
            obtain rfl : (⟨go19, 0, none⟩ : Addr) = ad118 := (by injection e118)
            (first | simp only [add_plain] at hx118_0 | simp only [add_at] at hx118_0 | simp only [Addr.add, Nat.zero_add] at hx118_0 | skip)
            (first | simp only [add_plain] at hx118_1 | simp only [add_at] at hx118_1 | simp only [Addr.add, Nat.zero_add] at hx118_1 | skip)
            (first | simp only [add_plain] at hx118_2 | simp only [add_at] at hx118_2 | simp only [Addr.add, Nat.zero_add] at hx118_2 | skip)
            replace p118 := eq_true p118;replace q118 := eq_true q118;have p21 : 0 ≤ (x4_1 : Int) := of_decide_eq_true (by assumption)
            have q21 : (x4_1 : Int) < ((x3_1.length : Int) : Int) := of_decide_eq_true (by assumption)
            obtain ⟨ce21, hcl21, hM21, hcc21, hfr21⟩ := R_elem HO_3.out z55 (x4_1 : Int) p21 q21
            obtain rfl := k55_openM hM21
            have hx21_0 : World.cell? _ ⟨go19, (x4_1 : Int).toNat * 3, none⟩ = some (.int .i64 ((rd_T55 y117 x4_1).f0)) := hcc21 0 _ rfl
            have hx21_1 : World.cell? _ ⟨go19, (x4_1 : Int).toNat * 3 + 1, none⟩ = some (.int .i64 ((rd_T55 y117 x4_1).f1)) := hcc21 1 _ rfl
            have hx21_2 : World.cell? _ ⟨go19, (x4_1 : Int).toNat * 3 + 2, none⟩ = some (.string ((rd_T55 y117 x4_1).f2)) := hcc21 2 _ rfl
            have hf21_0 : World.frozen? _ ⟨go19, (x4_1 : Int).toNat * 3, none⟩ = false := hfr21 0
            have hf21_1 : World.frozen? _ ⟨go19, (x4_1 : Int).toNat * 3 + 1, none⟩ = false := hfr21 1
            have hf21_2 : World.frozen? _ ⟨go19, (x4_1 : Int).toNat * 3 + 2, none⟩ = false := hfr21 2
            clear hcl21 hcc21 hfr21 hM21;replace p21 := eq_true p21;replace q21 := eq_true q21;obtain ⟨ce30, hcl30, hM30, hcc30, hfr30⟩ := R_elem HO_3.out z55 (x4_1 : Int) (of_decide_eq_true (by assumption)) (by have h_ : (x4_1 : Int) < ((x3_1.length : Int) : Int) := of_decide_eq_true (by assumption); first | exact h_ | (have e_ := (R_reads' HO_3.out).1; omega) | simpa using h_)
            obtain rfl := k55_openM hM30
            have HP30 := (R_seg HO_3.out (x4_1 : Int) (of_decide_eq_true (by assumption)) (by have h_ : (x4_1 : Int) < ((x3_1.length : Int) : Int) := of_decide_eq_true (by assumption); first | exact h_ | (have e_ := (R_reads' HO_3.out).1; omega) | simpa using h_) (seg := [.string (((rd_T55 y117 x4_1).f2) ++ ((rd_T55 x3_1 x17_1).f2))]) (j := 2) hcl30 hcc30 (show 3 ≤ 3 from by decide) (x' := (⟨(rd_T55 y117 x4_1).f0, (rd_T55 y117 x4_1).f1, ((rd_T55 y117 x4_1).f2) ++ ((rd_T55 x3_1 x17_1).f2)⟩ : S55)) (k55_mkM _ _ _ (⟨(rd_T55 y117 x4_1).f0, (rd_T55 y117 x4_1).f1, ((rd_T55 y117 x4_1).f2) ++ ((rd_T55 x3_1 x17_1).f2)⟩ : S55) ) (fun _ hk => hk)).1
            rw [← Ny119.out] at HP30
            have HQ30 := Am HP30;clear hcl30 hcc30 hfr30 hM30 HP30;refine start_ (n := 11) (S := fun w' => w'.cell? ⟨gb114, 0, none⟩ = some (.int .i64 ((rd_T55 x3_1 x17_1).f0)) ∧ w'.cell? ⟨gb114, 1, none⟩ = some (.int .i64 ((rd_T55 x3_1 x17_1).f1)) ∧ w'.cell? ⟨gb114, 2, none⟩ = some (.string ((rd_T55 x3_1 x17_1).f2)) ∧ w'.cell? ⟨go19, (x4_1).toNat * 3, none⟩ = some (.int .i64 ((rd_T55 y117 x4_1).f0)) ∧ w'.cell? ⟨go19, (x4_1).toNat * 3 + 1, none⟩ = some (.int .i64 ((rd_T55 y117 x4_1).f1)) ∧ w'.cell? ⟨go19, (x4_1).toNat * 3 + 2, none⟩ = some (.string ((rd_T55 y117 x4_1).f2))) (ds := [10]) #[false, false, false, false, false, false, false, false, false, false, false] (by kernel_rfl) rfl rfl ⟨(blk_cell BK114.out 0).trans rfl, (blk_cell BK114.out 1).trans rfl, (blk_cell BK114.out 2).trans rfl, hx118_0, hx118_1, hx118_2⟩ (fun hHeld => ?_); refine with_tabW normal_Of.tab13 normal_Of.bits13 (fun HT_ HW_ => ?_)
            generalize w28.drew = w29 at HO_3 BK114 HB HQ27 HQ30 hf21_0 hf21_1 hf21_2 hx118_0 hx118_1 hx118_2 hx21_0 hx21_1 hx21_2 hHeld ⊢
            refine pure_ (i := 0) (N := some 50) (v := ?_) (a' := ?_) #[true, false, false, false, false, false, false, false, false, false, false] rfl rfl (any_of HT_.out (by kernel_rfl)) (fun _ _ _ h => h) (Or.inl ⟨by rfl, ?_⟩) ?_ ?_
            rotate_left
            ·intro w'
             go_simp;with_reducible rfl
            rotate_left
            ·simp only [Act.put, zS, i64_w, i32_w]
             rfl
            refine pure_ (i := 1) (N := some 51) (v := ?_) (a' := ?_) #[true, true, false, false, false, false, false, false, false, false, false] rfl rfl (any_of HT_.out (by kernel_rfl)) (fun _ _ _ h => h) (Or.inl ⟨by rfl, ?_⟩) ?_ ?_
            rotate_left
            ·intro w'
             go_simp;with_reducible rfl
            rotate_left
            ·simp only [Act.put, zS, i64_w, i32_w]
             rfl
            refine pure_ (i := 2) (N := some 52) (v := ?_) (a' := ?_) #[true, true, true, false, false, false, false, false, false, false, false] rfl rfl (any_of HT_.out (by kernel_rfl)) (fun _ _ _ h => h) (Or.inl ⟨by rfl, ?_⟩) ?_ ?_
            rotate_left
            ·intro w'
             go_simp;with_reducible rfl
            rotate_left
            ·simp only [Act.put, zS, i64_w, i32_w]
             rfl
            refine pure_ (i := 3) (N := some 53) (v := ?_) (a' := ?_) #[true, true, true, true, false, false, false, false, false, false, false] rfl rfl (any_of HT_.out (by kernel_rfl)) (fun _ _ _ h => h) (Or.inl ⟨by rfl, ?_⟩) ?_ ?_
            rotate_left
            ·intro w'
             go_simp;with_reducible rfl
            rotate_left
            ·simp only [Act.put, zS, i64_w, i32_w]
             rfl
            refine pure_ (i := 5) (N := some 55) (v := ?_) (a' := ?_) #[true, true, true, true, false, true, false, false, false, false, false] rfl rfl (any_of HT_.out (by kernel_rfl)) (fun _ _ _ h => h) (Or.inl ⟨by rfl, ?_⟩) ?_ ?_
            rotate_left
            ·intro w'
             go_simp;with_reducible rfl
            rotate_left
            ·simp only [Act.put, zS, i64_w, i32_w]
             rfl
            refine take_ (i := 4) (N := some 54) (v := ?_) (a' := ?_) #[true, true, true, true, true, true, false, false, false, false, false] rfl rfl (take_ofW HT_.out HW_.out (by kernel_rfl)) (fun _ _ _ h => h) (Or.inl ⟨by rfl, ?_⟩) hHeld ?_ ?_
            rotate_left
            ·rintro w' ⟨s0, s1, s2, s3, s4, s5⟩
             go_simp;with_reducible rfl
            rotate_left
            ·simp only [Act.put, zS, i64_w, i32_w]
             rfl
            refine take_ (i := 6) (N := some 56) (v := ?_) (a' := ?_) #[true, true, true, true, true, true, true, false, false, false, false] rfl rfl (take_ofW HT_.out HW_.out (by kernel_rfl)) (fun _ _ _ h => h) (Or.inl ⟨by rfl, ?_⟩) hHeld ?_ ?_
            rotate_left
            ·rintro w' ⟨s0, s1, s2, s3, s4, s5⟩
             go_simp;with_reducible rfl
            rotate_left
            ·simp only [Act.put, zS, i64_w, i32_w]
             rfl
            refine pure_ (i := 7) (N := some 57) (v := ?_) (a' := ?_) #[true, true, true, true, true, true, true, true, false, false, false] rfl rfl (any_of HT_.out (by kernel_rfl)) (fun _ _ _ h => h) (Or.inl ⟨by rfl, ?_⟩) ?_ ?_
            rotate_left
            ·intro w'
             go_simp;with_reducible rfl
            rotate_left
            ·simp only [Act.put, zS, i64_w, i32_w]
             rfl
            refine pure_ (i := 8) (N := some 58) (v := ?_) (a' := ?_) #[true, true, true, true, true, true, true, true, true, false, false] rfl rfl (any_of HT_.out (by kernel_rfl)) (fun _ _ _ h => h) (Or.inl ⟨by rfl, ?_⟩) ?_ ?_
            rotate_left
            ·intro w'
             go_simp;with_reducible rfl
            rotate_left
            ·simp only [Act.put, zS, i64_w, i32_w]
             rfl
            refine pure_ (i := 9) (N := some 59) (v := ?_) (a' := ?_) #[true, true, true, true, true, true, true, true, true, true, false] rfl rfl (any_of HT_.out (by kernel_rfl)) (fun _ _ _ h => h) (Or.inl ⟨by rfl, ?_⟩) ?_ ?_
            rotate_left
            ·intro w'
             go_simp;with_reducible rfl
            rotate_left
            ·simp only [Act.put, zS, i64_w, i32_w]
             rfl
            refine last_ (i := 10) (N := none) #[true, true, true, true, true, true, true, true, true, true, true] rfl rfl (one_of HT_.out (by kernel_rfl)) (by decide) (fun K hK => ?_)
            refine skip_ (w1 := ?_) (by rfl) rfl ?_ ?_
            rotate_left
            ·go_simp;rfl
            refine hK.out _ _ ?_
            clear hK K;refine done_ (done_of HT_.out (by kernel_rfl)) ?_
            try go_wp2
            (try simp only [← hl3_1])
            go_roundg k1
            case measure => have := HK1.out; omega
            case rel => exact ⟨(y119), (x4_1), (wrap64 (x17_1 + 1)), zG, zG, H', ⟨by have := HK1.out; omega⟩, ⟨by (try simp only [hl3_1]); (with_reducible repeat (first | apply R_alloc | apply R_drewN | apply R_drew)); exact R_mono HQ30.out (fun _ hk => trivial)⟩, ⟨by repeat (first | (with_reducible first | exact HB.out | apply below_alloc | apply pw_below_drewN | apply below_drew1 | refine below_set ?_ GB19.out | refine below_set ?_ GE114.out) | exact HB.out)⟩⟩
           ·rw [if_neg c20] at H;exact absurd H (by simp)
          ·rw [if_neg c18] at H;have c18b0 : (((rd_T55 x3_1 x17_1).f0) == ((rd_T55 x3_1 x4_1).f0)) = false := beq_eq_false_iff_ne.mpr c18
           have c18b1 : (((rd_T55 x3_1 x17_1).f0) != ((rd_T55 x3_1 x4_1).f0)) = true := bne_iff_ne.mpr c18
           obtain ⟨ji31, hji31⟩ : ∃ j_ : Int, (wrap64 (x4_1 + 1)) = j_ := ⟨_, rfl⟩
           replace H : (if 0 ≤ (ji31) then (if (ji31) < (x3_1.length : Int) then (normal_Of.l0 k1 (x3_1.set ((ji31) : Int).toNat (⟨(rd_T55 x3_1 x17_1).f0, (rd_T55 x3_1 x17_1).f1, (rd_T55 x3_1 x17_1).f2⟩ : S55)) ji31 (t107.length : Int) (wrap64 (x17_1 + 1))) else (none)) else (none)) = some r := by first | (rw [hji31] at H; exact H) | (simp only [hji31] at H ⊢; exact H)
           have hji31w : (IntKind.i64.wrap (x4_1 + 1)) = ji31 := (i64_w _).trans hji31
           by_cases c32 : 0 ≤ (ji31)
           ·rw [if_pos c32] at H;have c32b0 : decide (0 ≤ (ji31)) = true := decide_eq_true c32
            clear c32;by_cases c33 : (ji31) < (x3_1.length : Int)
            ·rw [if_pos c33] at H;have c33b0 : decide ((ji31) < (x3_1.length : Int)) = true := decide_eq_true c33
             clear c33;obtain ⟨y120, hy120⟩ : ∃ y_ : List (S55), y_ = (x3_1.set ((ji31) : Int).toNat (⟨(rd_T55 x3_1 x17_1).f0, (rd_T55 x3_1 x17_1).f1, (rd_T55 x3_1 x17_1).f2⟩ : S55)) := ⟨_, rfl⟩
             replace H : (normal_Of.l0 k1 y120 ji31 (t107.length : Int) (wrap64 (x17_1 + 1))) = some r := by first | (rw [hy120]; with_reducible exact H) | (have H2_ := (Option.bind_some _ _).symm.trans H; rw [hy120]; with_reducible exact H2_) | (have H2_ := (Option.bind_some _ _).symm.trans H; with_reducible exact H2_) | with_reducible exact H | (rw [hy120]; exact H) | exact H
             have Ny120 := Am hy120;clear hy120;have H' := Am H
             clear H;have p113 : 0 ≤ (x17_1 : Int) := of_decide_eq_true (by assumption)
             have q113 : x17_1 < (x3_1.length : Int) := of_decide_eq_true (by assumption)
             obtain ⟨ad113, e113, hx113_0, hx113_1, hx113_2⟩ := at_T55 (R_reads' HO_3.out).2.2 x17_1 p113 q113
             cases e113
             replace p113 := eq_true p113;replace q113 := eq_true q113;try go_wp2_with (first | ((with_reducible refine gate_dst (N := 6) rfl ?_); refine box_event ?hg (N := 6) ?hd (cs := #[.int .i64 0, .int .i64 0, .string (⟨#[]⟩ : ByteArray)]) (t := 55) ?hr ?_; (case hd => rfl); (case hg => rfl); (case hr => first | (go_simp; done) | (go_simp; rfl)); intro gb114 hg w35 hbox hb; replace HO_3 := Am (R_below (R_elderB (zR HO_3) gb114 (Nat.le_of_eq hg.symm)) hb);have BK114 := Am (hbox);have GW114 := Am (zO (w := w) HB hg);have GE114 := Am (zO (w := w) HB hg);replace HB := Am (below_step (zB HB) hb); clear hb hbox hg; obtain ⟨hcz36_0, hcz36_1, hcz36_2, hfz36_0, hfz36_1, hfz36_2⟩ := zc3 BK114))
             have n0_ : Aside0 (Kd.R k55 55 (((w35.setCell ⟨gb114, 0, none⟩ (.int .i64 ((rd_T55 x3_1 x17_1).f0))).setCell ⟨gb114, 1, none⟩ (.int .i64 ((rd_T55 x3_1 x17_1).f1))).setCell ⟨gb114, 2, none⟩ (.string ((rd_T55 x3_1 x17_1).f2))) w.heap.size (fun k_ => k_ ≠ gb114) (.slice (some ad113) x3_1.length co9) x3_1) := ⟨by (with_reducible repeat (first | apply R_alloc | apply R_drewN | apply R_drew)); exact R_mono (zY (R_mono HO_3.out (fun k_ hk => (⟨hk, hk.2⟩ : _ ∧ k_ ≠ gb114))) gb114 (fun _ hk => hk.2) (.int .i64 ((rd_T55 x3_1 x17_1).f0)) (.int .i64 ((rd_T55 x3_1 x17_1).f1)) (.string ((rd_T55 x3_1 x17_1).f2))) (fun _ hk => hk.1.2)⟩
             have n1_ : Aside0 ((((w35.setCell ⟨gb114, 0, none⟩ (.int .i64 ((rd_T55 x3_1 x17_1).f0))).setCell ⟨gb114, 1, none⟩ (.int .i64 ((rd_T55 x3_1 x17_1).f1))).setCell ⟨gb114, 2, none⟩ (.string ((rd_T55 x3_1 x17_1).f2))).heap[gb114]? = some (.cells #[.int .i64 ((rd_T55 x3_1 x17_1).f0), .int .i64 ((rd_T55 x3_1 x17_1).f1), .string ((rd_T55 x3_1 x17_1).f2)] 55 (0, 0))) := ⟨(zP BK114)⟩
             have n2_ : Aside0 (Below w.heap.size w (((w35.setCell ⟨gb114, 0, none⟩ (.int .i64 ((rd_T55 x3_1 x17_1).f0))).setCell ⟨gb114, 1, none⟩ (.int .i64 ((rd_T55 x3_1 x17_1).f1))).setCell ⟨gb114, 2, none⟩ (.string ((rd_T55 x3_1 x17_1).f2)))) := ⟨(zB HB)⟩
             (try clear HO_3);(try clear BK114);(try clear HB);generalize (((w35.setCell ⟨gb114, 0, none⟩ (.int .i64 ((rd_T55 x3_1 x17_1).f0))).setCell ⟨gb114, 1, none⟩ (.int .i64 ((rd_T55 x3_1 x17_1).f1))).setCell ⟨gb114, 2, none⟩ (.string ((rd_T55 x3_1 x17_1).f2))) = w37 at n0_ n1_ n2_ ⊢
             have HO_3 := n0_;have BK114 := n1_;have HB := n2_;clear n0_ n1_ n2_;replace HO_3 := Am (R_drew HO_3.out);replace BK114 := Am (blk_drew BK114.out);replace HB := Am (below_drew1 HB.out);have p115 : 0 ≤ (x4_1 : Int) := of_decide_eq_true (by assumption)
             have q115 : x4_1 < (x3_1.length : Int) := of_decide_eq_true (by assumption)
             obtain ⟨ad115, e115, hx115_0, hx115_1, hx115_2⟩ := at_T55 (R_reads' HO_3.out).2.2 x4_1 p115 q115
             obtain rfl : ad113 = ad115 := (by injection e115)
             replace p115 := eq_true p115;replace q115 := eq_true q115;refine start_ (n := 9) (S := fun w' => w'.cell? ⟨gb114, 0, none⟩ = some (.int .i64 ((rd_T55 x3_1 x17_1).f0)) ∧ w'.cell? ⟨gb114, 1, none⟩ = some (.int .i64 ((rd_T55 x3_1 x17_1).f1)) ∧ w'.cell? ⟨gb114, 2, none⟩ = some (.string ((rd_T55 x3_1 x17_1).f2)) ∧ w'.cell? (ad113.add ((x4_1).toNat * 3)) = some (.int .i64 ((rd_T55 x3_1 x4_1).f0)) ∧ w'.cell? ⟨(ad113.add ((x4_1).toNat * 3)).block, (ad113.add ((x4_1).toNat * 3)).off + 1, none⟩ = some (.int .i64 ((rd_T55 x3_1 x4_1).f1)) ∧ w'.cell? ⟨(ad113.add ((x4_1).toNat * 3)).block, (ad113.add ((x4_1).toNat * 3)).off + 2, none⟩ = some (.string ((rd_T55 x3_1 x4_1).f2))) (ds := []) #[false, false, false, false, false, false, false, false, false] (by kernel_rfl) rfl rfl ⟨(blk_cell BK114.out 0).trans rfl, (blk_cell BK114.out 1).trans rfl, (blk_cell BK114.out 2).trans rfl, hx115_0, hx115_1, hx115_2⟩ (fun hHeld => ?_); refine with_tabW normal_Of.tab11 normal_Of.bits11 (fun HT_ HW_ => ?_)
             generalize w37.drew = w38 at HO_3 BK114 HB hx115_0 hx115_1 hx115_2 hHeld ⊢
             refine pure_ (i := 0) (N := some 32) (v := ?_) (a' := ?_) #[true, false, false, false, false, false, false, false, false] rfl rfl (any_of HT_.out (by kernel_rfl)) (fun _ _ _ h => h) (Or.inl ⟨by rfl, ?_⟩) ?_ ?_
             rotate_left
             ·intro w'
              go_simp;with_reducible rfl
             rotate_left
             ·simp only [Act.put, zS, i64_w, i32_w]
              rfl
             refine pure_ (i := 2) (N := some 34) (v := ?_) (a' := ?_) #[true, false, true, false, false, false, false, false, false] rfl rfl (any_of HT_.out (by kernel_rfl)) (fun _ _ _ h => h) (Or.inl ⟨by rfl, ?_⟩) ?_ ?_
             rotate_left
             ·intro w'
              go_simp;with_reducible rfl
             rotate_left
             ·simp only [Act.put, zS, i64_w, i32_w]
              rfl
             refine pure_ (i := 3) (N := some 35) (v := ?_) (a' := ?_) #[true, false, true, true, false, false, false, false, false] rfl rfl (any_of HT_.out (by kernel_rfl)) (fun _ _ _ h => h) (Or.inl ⟨by rfl, ?_⟩) ?_ ?_
             rotate_left
             ·intro w'
              go_simp;with_reducible rfl
             rotate_left
             ·simp only [Act.put, zS, i64_w, i32_w]
              rfl
             refine pure_ (i := 4) (N := some 36) (v := ?_) (a' := ?_) #[true, false, true, true, true, false, false, false, false] rfl rfl (any_of HT_.out (by kernel_rfl)) (fun _ _ _ h => h) (Or.inl ⟨by rfl, ?_⟩) ?_ ?_
             rotate_left
             ·intro w'
              go_simp;with_reducible rfl
             rotate_left
             ·simp only [Act.put, zS, i64_w, i32_w]
              rfl
             refine pure_ (i := 5) (N := some 37) (v := ?_) (a' := ?_) #[true, false, true, true, true, true, false, false, false] rfl rfl (any_of HT_.out (by kernel_rfl)) (fun _ _ _ h => h) (Or.inl ⟨by rfl, ?_⟩) ?_ ?_
             rotate_left
             ·intro w'
              go_simp;with_reducible rfl
             rotate_left
             ·simp only [Act.put, zS, i64_w, i32_w]
              rfl
             refine take_ (i := 1) (N := some 33) (v := ?_) (a' := ?_) #[true, true, true, true, true, true, false, false, false] rfl rfl (take_ofW HT_.out HW_.out (by kernel_rfl)) (fun _ _ _ h => h) (Or.inl ⟨by rfl, ?_⟩) hHeld ?_ ?_
             rotate_left
             ·rintro w' ⟨s0, s1, s2, s3, s4, s5⟩
              go_simp;with_reducible rfl
             rotate_left
             ·simp only [Act.put, zS, i64_w, i32_w]
              rfl
             refine take_ (i := 6) (N := some 38) (v := ?_) (a' := ?_) #[true, true, true, true, true, true, true, false, false] rfl rfl (take_ofW HT_.out HW_.out (by kernel_rfl)) (fun _ _ _ h => h) (Or.inl ⟨by rfl, ?_⟩) hHeld ?_ ?_
             rotate_left
             ·rintro w' ⟨s0, s1, s2, s3, s4, s5⟩
              go_simp;with_reducible rfl
             rotate_left
             ·simp only [Act.put, zS, i64_w, i32_w]
              rfl
             refine pure_ (i := 7) (N := some 39) (v := ?_) (a' := ?_) #[true, true, true, true, true, true, true, true, false] rfl rfl (any_of HT_.out (by kernel_rfl)) (fun _ _ _ h => h) (Or.inl ⟨by rfl, ?_⟩) ?_ ?_
             rotate_left
             ·intro w'
              go_simp;with_reducible rfl
             rotate_left
             ·simp only [Act.put, zS, i64_w, i32_w]
              rfl
             refine pure_ (i := 8) (N := some 31) (v := ?_) (a' := ?_) #[true, true, true, true, true, true, true, true, true] rfl rfl (any_of HT_.out (by kernel_rfl)) (fun _ _ _ h => h) (Or.inl ⟨by rfl, ?_⟩) ?_ ?_
             rotate_left
             ·intro w'
              go_simp;with_reducible rfl
             rotate_left
             ·simp only [Act.put, zS, i64_w, i32_w]
              rfl
             refine done_ (done_of HT_.out (by kernel_rfl)) ?_
             obtain ⟨hcz39_0, hcz39_1, hcz39_2, hfz39_0, hfz39_1, hfz39_2⟩ := zc3 BK114;have p34 : 0 ≤ ((ji31) : Int) := of_decide_eq_true (by assumption)
             have q34 : ((ji31) : Int) < ((x3_1.length : Int) : Int) := of_decide_eq_true (by assumption)
             obtain ⟨go34, co34, eo34, gb34, gl34, cl34, HG34⟩ := R_form HO_3.out (by omega)
             (first | cases eo34 | (injection eo34 with ea_ en_ ec_; (first | subst ea_ | (injection ea_ with ea_; subst ea_)); subst ec_; clear en_))
             have GB34 := Am gb34;have GG34 := Am HG34;clear gb34 gl34 HG34;(first | simp only [add_plain] at hx113_0 | skip)
             (first | simp only [add_plain] at hx113_1 | skip)
             (first | simp only [add_plain] at hx113_2 | skip)
             (first | simp only [add_plain] at hx115_0 | skip)
             (first | simp only [add_plain] at hx115_1 | skip)
             (first | simp only [add_plain] at hx115_2 | skip)
             obtain ⟨ce34, hcl34, hM34, hcc34, hfr34⟩ := R_elem HO_3.out z55 ((ji31) : Int) p34 q34
             obtain rfl := k55_openM hM34
             have hx34_0 : w38.cell? ⟨go34, ((ji31) : Int).toNat * 3, none⟩ = some (.int .i64 ((rd_T55 x3_1 (ji31)).f0)) := hcc34 0 _ rfl
             have hx34_1 : w38.cell? ⟨go34, ((ji31) : Int).toNat * 3 + 1, none⟩ = some (.int .i64 ((rd_T55 x3_1 (ji31)).f1)) := hcc34 1 _ rfl
             have hx34_2 : w38.cell? ⟨go34, ((ji31) : Int).toNat * 3 + 2, none⟩ = some (.string ((rd_T55 x3_1 (ji31)).f2)) := hcc34 2 _ rfl
             have hf34_0 : w38.frozen? ⟨go34, ((ji31) : Int).toNat * 3, none⟩ = false := hfr34 0
             have hf34_1 : w38.frozen? ⟨go34, ((ji31) : Int).toNat * 3 + 1, none⟩ = false := hfr34 1
             have hf34_2 : w38.frozen? ⟨go34, ((ji31) : Int).toNat * 3 + 2, none⟩ = false := hfr34 2
             clear hcl34 hcc34 hfr34 hM34;replace p34 := eq_true p34;replace q34 := eq_true q34;have HX40 := Am (show Kd.R k55 55 w38 w.heap.size (fun k_ => k_ ≠ gb114) (.slice (some ⟨go34, 0, none⟩) x3_1.length co9) x3_1 from (zR HO_3))
             obtain ⟨ce40, hcl40, hM40, hcc40, hfr40⟩ := R_elem HX40.out z55 ((ji31) : Int) (of_decide_eq_true (by assumption)) (by have h_ : ((ji31) : Int) < ((x3_1.length : Int) : Int) := of_decide_eq_true (by assumption); first | exact h_ | (have e_ := (R_reads' HO_3.out).1; omega) | simpa using h_)
             obtain rfl := k55_openM hM40
             have HP40 := R_seg HX40.out ((ji31) : Int) (of_decide_eq_true (by assumption)) (by have h_ : ((ji31) : Int) < ((x3_1.length : Int) : Int) := of_decide_eq_true (by assumption); first | exact h_ | (have e_ := (R_reads' HO_3.out).1; omega) | simpa using h_) (seg := [.int .i64 ((rd_T55 x3_1 x17_1).f0), .int .i64 ((rd_T55 x3_1 x17_1).f1), .string ((rd_T55 x3_1 x17_1).f2)]) (j := 0) hcl40 hcc40 (show 3 ≤ 3 from by decide) (x' := (⟨(rd_T55 x3_1 x17_1).f0, (rd_T55 x3_1 x17_1).f1, (rd_T55 x3_1 x17_1).f2⟩ : S55)) (k55_mkM _ _ _ (⟨(rd_T55 x3_1 x17_1).f0, (rd_T55 x3_1 x17_1).f1, (rd_T55 x3_1 x17_1).f2⟩ : S55) ) (fun _ hk => hk)
             have hx40_0 := hcc40 0 _ rfl
             (try simp only [show (k55).sz = 3 from rfl, Nat.mul_one, Nat.add_zero] at hx40_0)
             have hf40_0 := hfr40 0
             (try simp only [show (k55).sz = 3 from rfl, Nat.mul_one, Nat.add_zero] at hf40_0)
             have hx40_1 := hcc40 1 _ rfl
             (try simp only [show (k55).sz = 3 from rfl, Nat.mul_one, Nat.add_zero] at hx40_1)
             have hf40_1 := hfr40 1
             (try simp only [show (k55).sz = 3 from rfl, Nat.mul_one, Nat.add_zero] at hf40_1)
             have hx40_2 := hcc40 2 _ rfl
             (try simp only [show (k55).sz = 3 from rfl, Nat.mul_one, Nat.add_zero] at hx40_2)
             have hf40_2 := hfr40 2
             (try simp only [show (k55).sz = 3 from rfl, Nat.mul_one, Nat.add_zero] at hf40_2)
             clear hcl40 hcc40 hfr40 hM40;try go_wp2_with (first | ((with_reducible refine gate_store (t := 55) (p := 27) rfl ?_); refine store_event (t := 55) (p := 27) (v := ?vo_w41) (w1 := (((w38.setCell ⟨go34, ((ji31) : Int).toNat * 3, none⟩ (.int .i64 ((rd_T55 x3_1 x17_1).f0))).setCell ⟨go34, ((ji31) : Int).toNat * 3 + 1, none⟩ (.int .i64 ((rd_T55 x3_1 x17_1).f1))).setCell ⟨go34, ((ji31) : Int).toNat * 3 + 2, none⟩ (.string ((rd_T55 x3_1 x17_1).f2)))) ?hg ?ho ?hn ?hr ?_; (case ho => rfl); (case hg => rfl); (case hn => rfl); (case hr => first | (go_simp; done) | (go_simp; rfl)); intro w41 hw; have hg : w38.grownBy w41 (some go34) := (by rw [hw]; exact HP40.2); have hp_ : Kd.R k55 55 w41 w.heap.size (fun k_ => k_ ≠ gb114) (.slice (some ⟨go34, 0, none⟩) x3_1.length co9) y120 := (by rw [hw, Ny120.out]; exact HP40.1); clear HP40; replace BK114 := Am (zW BK114 hg (R_away HO_3.out (fun _ hk => hk)));replace HO_3 := Am (hp_);replace HB := Am ((by rw [hw]; exact below_set (below_set (below_set (HB.out) GB34.out) GB34.out) GB34.out : Below w.heap.size w w41)); clear hg hw hp_))
             (try simp only [← hl3_1])
             go_roundg k1
             case measure => have := HK1.out; omega
             case rel => exact ⟨(y120), (ji31), (wrap64 (x17_1 + 1)), (by first | rfl | (simp; done) | (simp only [← hji31] <;> (first | rfl | simp)) | (simp [*]; done)), zG, H', ⟨by have := HK1.out; omega⟩, ⟨by (try simp only [hl3_1]); (with_reducible repeat (first | apply R_alloc | apply R_drewN | apply R_drew)); exact R_mono HO_3.out (fun _ hk => trivial)⟩, ⟨(zB HB)⟩⟩
            ·rw [if_neg c33] at H;exact absurd H (by simp)
           ·rw [if_neg c32] at H;exact absurd H (by simp)
         ·rw [if_neg c17] at H;exact absurd H (by simp)
        ·rw [if_neg c16] at H;exact absurd H (by simp)
      ·rw [if_neg c12] at H;exact absurd H (by simp)
     ·rw [if_neg c11] at H;exact absurd H (by simp)
    ·rw [if_neg c10] at H;have c10b0 : decide (x17_1 < (t107.length : Int)) = false := decide_eq_false c10
     (try simp only [hl3_1] at c10b0)
     clear c10;obtain ⟨ji42, hji42⟩ : ∃ j_ : Int, (mn (wrap64 (x4_1 + 1)) (x3_1.length : Int)) = j_ := ⟨_, rfl⟩
     replace H : (if 0 ≤ (ji42) then (if (ji42) ≤ (x3_1.length : Int) then (some (x3_1.take ((ji42) : Int).toNat)) else (none)) else (none)) = some r := by first | (rw [hji42] at H; exact H) | (simp only [hji42] at H ⊢; exact H)
     have hji42_ : (if (x3_1.length : Int) < (wrap64 (x4_1 + 1)) then (x3_1.length : Int) else (wrap64 (x4_1 + 1))) = ji42 := hji42
     by_cases c43 : 0 ≤ (ji42)
     ·rw [if_pos c43] at H;have c43b0 := eq_true c43
      have c43b1 : decide (0 ≤ (ji42)) = true := decide_eq_true c43
      clear c43;by_cases c44 : (ji42) ≤ (x3_1.length : Int)
      ·rw [if_pos c44] at H;have c44b0 := eq_true c44
       have c44b1 : decide ((ji42) ≤ (x3_1.length : Int)) = true := decide_eq_true c44
       clear c44;obtain ⟨y110, hy110⟩ : ∃ y_ : List (S55), y_ = (x3_1.take ((ji42) : Int).toNat) := ⟨_, rfl⟩
       replace H : (some y110) = some r := by first | (rw [hy110]; with_reducible exact H) | (have H2_ := (Option.bind_some _ _).symm.trans H; rw [hy110]; with_reducible exact H2_) | (have H2_ := (Option.bind_some _ _).symm.trans H; with_reducible exact H2_) | with_reducible exact H | (rw [hy110]; exact H) | exact H
       have Ny110 := Am hy110;clear hy110;obtain rfl := Option.some.inj H;have q45 : ((ji42) : Int) ≤ ((x3_1.length : Int) : Int) := of_decide_eq_true (by assumption)
       obtain ⟨i045, hi045, _, hsz45, _⟩ := info_parts info55
       have hcut45 := cut_to (P := Tryd.prog) 22 55 .i64 Tryd.underlying22 hi045 Ao9 x3_1.length co9 (ji42) (of_decide_eq_true (by assumption)) q45 (R_reads' HO_3.out).2.1
       have hr45 := R_take (m := ((ji42) : Int).toNat) HO_3.out (by omega)
       have hy45 : y110.length = ((ji42) : Int).toNat := (by rw [Ny110.out, List.length_take]; omega)
       rw [← Ny110.out] at hr45
       rw [← hy45] at hr45 hcut45
       clear hy45 hi045 hsz45 HO_3;have HO112 := Am hr45;clear hr45;replace q45 := eq_true q45;go_wp2
       go_ret
       exact ⟨_, by first | rfl | (simp [errW_none, errW_some] <;> rfl) | (simp only [← hji42]; first | rfl | (simp [errW_none, errW_some] <;> rfl)) | (simp [*, errW_none, errW_some] <;> rfl), (zR HO112), (zB HB)⟩
      ·rw [if_neg c44] at H;exact absurd H (by simp)
     ·rw [if_neg c43] at H;exact absurd H (by simp)
 ·rw [if_neg c2] at H;exact absurd H (by simp)
end Go.Proofs.YtekjfodfedpioaaDoor.F
end
section
namespace Go.Proofs.YtekjfodfedpioaaDoor.F
open Go.RowKit Go.Proofs.YtekjfodfedpioaaDoorW.PrintWords Go.Proofs.YtekjfodfedpioaaDoorW.PrintLast Go.Proofs.YtekjfodfedpioaaDoorW.PrintMore
set_option linter.unusedVariables false
set_option linter.unusedSimpArgs false
theorem size_alloc (w : World) (o : Obj) : (w.alloc o).heap.size = w.heap.size + 1 := by
  show (w.heap.push o).size = _
  exact Array.size_push _
structure Glob (w : World) : Prop where
  k2 : w.cell? ⟨0, 2, none⟩ = some (.bool true)
  k3 : w.cell? ⟨0, 3, none⟩ = some (.bool true)
  k4 : w.cell? ⟨0, 4, none⟩ = some (.bool false)
  k5 : w.cell? ⟨0, 5, none⟩ = some (.bool false)
  k6 : w.cell? ⟨0, 6, none⟩ = some (.bool true)
  k7 : w.cell? ⟨0, 7, none⟩ = some (.bool false)
  tabs : Lib.Utf8Tabs 1 2 w
theorem glob_cell {w0 w : World} {a : Addr} {v : Value} (hb : Below w0.heap.size w0 w) (h : w0.cell? a = some v) : w.cell? a = some v := (hb.cell (World.block_lt_of_cell? w0 _ h)).trans h
theorem Glob.below {w0 w : World} (h : Glob w0) (hb : Below w0.heap.size w0 w) : Glob w :=
  ⟨glob_cell hb h.k2, glob_cell hb h.k3, glob_cell hb h.k4, glob_cell hb h.k5, glob_cell hb h.k6, glob_cell hb h.k7,
    fun c hc => glob_cell hb (h.tabs.1 c hc), fun i hi => ⟨glob_cell hb (h.tabs.2 i hi).1, glob_cell hb (h.tabs.2 i hi).2⟩⟩
theorem Glob.drawn {w0 w : World} (h : Glob w0) (hd : Drawn0 w0 w) : Glob w := by
  obtain ⟨n, rfl⟩ := hd.out
  exact h.below (pw_below_drewN (Below.refl _ _) n)
def span_of.f (a0 a1 : Int) (a2 : ByteArray) : Option (Bool × Bool × Bool) :=
  if a0 = 1 then some (true, true, true) else if a0 = 2 then some (false, false, true) else if a0 = 3 then some (true, false, true) else some (false, false, false)
theorem glob_alloc {w : World} {a : Addr} {v : Value} (o : Obj) (h : w.cell? a = some v) : (w.alloc o).cell? a = some v := glob_cell (below_alloc (Below.refl _ _) o) h
set_option maxHeartbeats 2000000 in
theorem span_of.calls (a0 a1 : Int) (a2 : ByteArray) (r1 r2 r3 : Bool) (w : World) (hG : Glob w) (h : span_of.f a0 a1 a2 = some (r1, r2, r3)) :
  Calls Tryd.prog 66 #[.agg #[.int .i64 a0, .int .i64 a1, .string a2]] w fun e w' => e = .returned (.tuple #[.agg #[.bool r1, .bool r2], .bool r3]) ∧ Below w.heap.size w w' := by
 have HG := Aside0.mk hG;clear hG;unfold span_of.f at h
 by_cases c1 : a0 = 1
 ·subst c1
  obtain ⟨rfl, rfl, rfl⟩ : true = r1 ∧ true = r2 ∧ true = r3 := by simpa using h
  clear h;have h2 := glob_alloc (Obj.cells #[.int .i64 1, .int .i64 a1, .string a2] 55) HG.out.k2
  have h3 := glob_alloc (Obj.cells #[.int .i64 1, .int .i64 a1, .string a2] 55) HG.out.k3
  have h4 := glob_alloc (Obj.cells #[.bool false, .bool false] 86) h2
  have h5 := glob_alloc (Obj.cells #[.bool false, .bool false] 86) h3
  go_enter Tryd.func66, Tryd.ntmps66
  go_wp2
  exact bodyPost_ret (v := .tuple #[.agg #[.bool true, .bool true], .bool true]) (by simp [results, Tryd.results66, go_sem]) rfl ⟨rfl, by repeat (first | exact Below.refl _ _ | apply below_alloc)⟩
 ·by_cases c2 : a0 = 2
  ·subst c2
   obtain ⟨rfl, rfl, rfl⟩ : false = r1 ∧ false = r2 ∧ true = r3 := by simpa using h
   clear h;have h2 := glob_alloc (Obj.cells #[.int .i64 2, .int .i64 a1, .string a2] 55) HG.out.k4
   have h3 := glob_alloc (Obj.cells #[.int .i64 2, .int .i64 a1, .string a2] 55) HG.out.k5
   have h4 := glob_alloc (Obj.cells #[.bool false, .bool false] 86) h2
   have h5 := glob_alloc (Obj.cells #[.bool false, .bool false] 86) h3
   go_enter Tryd.func66, Tryd.ntmps66
   go_wp2
   exact bodyPost_ret (v := .tuple #[.agg #[.bool false, .bool false], .bool true]) (by simp [results, Tryd.results66, go_sem]) rfl ⟨rfl, by repeat (first | exact Below.refl _ _ | apply below_alloc)⟩
  ·by_cases c3 : a0 = 3
   ·subst c3
    obtain ⟨rfl, rfl, rfl⟩ : true = r1 ∧ false = r2 ∧ true = r3 := by simpa using h
    clear h;have h2 := glob_alloc (Obj.cells #[.int .i64 3, .int .i64 a1, .string a2] 55) HG.out.k6
    have h3 := glob_alloc (Obj.cells #[.int .i64 3, .int .i64 a1, .string a2] 55) HG.out.k7
    have h4 := glob_alloc (Obj.cells #[.bool false, .bool false] 86) h2
    have h5 := glob_alloc (Obj.cells #[.bool false, .bool false] 86) h3
    go_enter Tryd.func66, Tryd.ntmps66
    go_wp2
    exact bodyPost_ret (v := .tuple #[.agg #[.bool true, .bool false], .bool true]) (by simp [results, Tryd.results66, go_sem]) rfl ⟨rfl, by repeat (first | exact Below.refl _ _ | apply below_alloc)⟩
   ·rw [if_neg c1, if_neg c2, if_neg c3] at h
    obtain ⟨rfl, rfl, rfl⟩ : false = r1 ∧ false = r2 ∧ false = r3 := by simpa using h
    clear h;by_cases c4 : a0 < 1
    ·have d1 : decide (a0 < 1) = true := decide_eq_true c4
     clear c1 c2 c3 c4;go_enter Tryd.func66, Tryd.ntmps66
     go_wp2
     exact bodyPost_ret (v := .tuple #[.agg #[.bool false, .bool false], .bool false]) (by simp [results, Tryd.results66, go_sem]) rfl ⟨rfl, by repeat (first | exact Below.refl _ _ | apply below_alloc)⟩
    ·have d1 : decide (a0 < 1) = false := decide_eq_false c4
     have d2 : decide (3 < a0) = true := decide_eq_true (by omega)
     clear c1 c2 c3 c4;go_enter Tryd.func66, Tryd.ntmps66
     go_wp2
     exact bodyPost_ret (v := .tuple #[.agg #[.bool false, .bool false], .bool false]) (by simp [results, Tryd.results66, go_sem]) rfl ⟨rfl, by repeat (first | exact Below.refl _ _ | apply below_alloc)⟩
end Go.Proofs.YtekjfodfedpioaaDoor.F
end
section
namespace Go.Proofs.YtekjfodfedpioaaDoor.F
open Go.RowKit Go.Proofs.YtekjfodfedpioaaDoorW.PrintWords Go.Proofs.YtekjfodfedpioaaDoorW.PrintLast Go.Proofs.YtekjfodfedpioaaDoorW.PrintMore
attribute [local go_sem] max2_int min2_int max_two min_two max_three min_three max_four min_four cell_setCell_isSome
set_option linter.unusedVariables false
set_option linter.unusedSimpArgs false
open Kd
def span_In.f (a0_0 : Int) (a0_1 : Int) (a0_2 : ByteArray) : Option (Int) := (span_of.f a0_0 a0_1 a0_2).bind fun bt102 => (if bt102.1 = true then (some a0_1) else (some 0))
set_option maxHeartbeats 40000000 in
set_option maxRecDepth 100000 in
theorem span_In.calls (a0_0 : Int) (a0_1 : Int) (a0_2 : ByteArray) (r : Int) (w : World) (hG : Glob w) (h : span_In.f a0_0 a0_1 a0_2 = some r) :
  Calls Tryd.prog 56 #[.agg #[.int .i64 a0_0, .int .i64 a0_1, .string a0_2]] w fun e w' => e = .returned (.int .i64 r) ∧ Below w.heap.size w w' := by
 have hu55 := Tryd.underlying55
 have hu86 := Tryd.underlying86
 have HG := Am hG;clear hG;have HB := Am (Below.refl w.heap.size w)
 have H : ((span_of.f a0_0 a0_1 a0_2).bind fun bt102 => (if bt102.1 = true then (some a0_1) else (some 0))) = some r := h
 clear h;replace H := Option.bind_eq_some_iff.mp H;obtain ⟨⟨t102, t103, t104⟩, A20, H⟩ := H;replace H : (if t102 = true then (some a0_1) else (some 0)) = some r := H
 have A2 := Am A20;clear A20;by_cases c3 : t102 = true
 ·subst c3
  have H1 : (some a0_1) = some r := by rw [if_pos rfl] at H; exact H
  clear H;have H := H1
  clear H1;obtain rfl := Option.some.inj H;go_enter Tryd.func56, Tryd.ntmps56
  go_wp2_with (first | ((with_reducible refine gate_dst (N := 1) rfl ?_); refine box_event ?hg (N := 1) ?hd (cs := #[.int .i64 a0_0, .int .i64 a0_1, .string a0_2]) (t := 55) ?hr ?_; (case hd => rfl); (case hg => rfl); (case hr => first | (go_simp; done) | (go_simp; rfl)); intro gb101 hg w4 hbox hb; have BK101 := Am (hbox);have GW101 := Am (zO (w := w) HB hg);have GE101 := Am (zO (w := w) HB hg);replace HB := Am (below_step (zB HB) hb); clear hb hbox hg; obtain ⟨hcz5_0, hcz5_1, hcz5_2, hfz5_0, hfz5_1, hfz5_2⟩ := zc3 BK101) | ((with_reducible refine gate_callee (f := 66) rfl ?_); refine goesL_ (some 7) rfl rfl Tryd.func66 (by kernel_rfl) rfl #[.agg #[.int .i64 a0_0, .int .i64 a0_1, .string a0_2]] rfl zE ?_; (with_reducible refine (span_of.calls a0_0 a0_1 a0_2 true t103 t104 _ ?side1 A2.out).mono ?_); (case side1 => exact zg HG HB); rintro e w6 ⟨rfl, hb⟩; refine ⟨_, rfl, ?_⟩; replace BK101 := Am (zU BK101 hb);replace HB := Am (below_step (zB HB) hb); (try clear hb)) | ((with_reducible refine gate_dst (N := 3) rfl ?_); refine box_event ?hg (N := 3) ?hd (cs := #[.bool false, .bool false]) (t := 86) ?hr ?_; (case hd => rfl); (case hg => rfl); (case hr => first | (go_simp; done) | (go_simp; rfl)); intro gb105 hg w7 hbox hb; have BK105 := Am (hbox);have GW105 := Am (zO (w := w) HB hg);have GE105 := Am (zO (w := w) HB hg);replace HB := Am (below_step (zB HB) hb);have NB101_105 := Am ((by rw [hg]; exact Nat.ne_of_lt (zL BK101) : gb101 ≠ gb105));have NB105_101 := Am ((by rw [hg]; exact Nat.ne_of_gt (zL BK101) : gb105 ≠ gb101));replace BK101 := Am (zU BK101 hb); clear hb hbox hg; have hnb8 := NB105_101.out; have hnc8 := NB101_105.out; obtain ⟨hcz9_0, hcz9_1, hfz9_0, hfz9_1⟩ := zc2 BK105; obtain ⟨hcz10_0, hcz10_1, hcz10_2, hfz10_0, hfz10_1, hfz10_2⟩ := zc3 BK101))
  go_ret
  exact ⟨zF, (zB HB)⟩
 ·replace c3 := Bool.eq_false_iff.mpr c3
  subst c3
  have H1 : (some 0) = some r := by rw [if_neg (show ¬ (false = true) by decide)] at H; exact H
  clear H;have H := H1
  clear H1;obtain rfl := Option.some.inj H;go_enter Tryd.func56, Tryd.ntmps56
  go_wp2_with (first | ((with_reducible refine gate_dst (N := 1) rfl ?_); refine box_event ?hg (N := 1) ?hd (cs := #[.int .i64 a0_0, .int .i64 a0_1, .string a0_2]) (t := 55) ?hr ?_; (case hd => rfl); (case hg => rfl); (case hr => first | (go_simp; done) | (go_simp; rfl)); intro gb101 hg w11 hbox hb; have BK101 := Am (hbox);have GW101 := Am (zO (w := w) HB hg);have GE101 := Am (zO (w := w) HB hg);replace HB := Am (below_step (zB HB) hb); clear hb hbox hg; obtain ⟨hcz12_0, hcz12_1, hcz12_2, hfz12_0, hfz12_1, hfz12_2⟩ := zc3 BK101) | ((with_reducible refine gate_callee (f := 66) rfl ?_); refine goesL_ (some 7) rfl rfl Tryd.func66 (by kernel_rfl) rfl #[.agg #[.int .i64 a0_0, .int .i64 a0_1, .string a0_2]] rfl zE ?_; (with_reducible refine (span_of.calls a0_0 a0_1 a0_2 false t103 t104 _ ?side1 A2.out).mono ?_); (case side1 => exact zg HG HB); rintro e w13 ⟨rfl, hb⟩; refine ⟨_, rfl, ?_⟩; replace BK101 := Am (zU BK101 hb);replace HB := Am (below_step (zB HB) hb); (try clear hb)) | ((with_reducible refine gate_dst (N := 3) rfl ?_); refine box_event ?hg (N := 3) ?hd (cs := #[.bool false, .bool false]) (t := 86) ?hr ?_; (case hd => rfl); (case hg => rfl); (case hr => first | (go_simp; done) | (go_simp; rfl)); intro gb105 hg w14 hbox hb; have BK105 := Am (hbox);have GW105 := Am (zO (w := w) HB hg);have GE105 := Am (zO (w := w) HB hg);replace HB := Am (below_step (zB HB) hb);have NB101_105 := Am ((by rw [hg]; exact Nat.ne_of_lt (zL BK101) : gb101 ≠ gb105));have NB105_101 := Am ((by rw [hg]; exact Nat.ne_of_gt (zL BK101) : gb105 ≠ gb101));replace BK101 := Am (zU BK101 hb); clear hb hbox hg; have hnb15 := NB105_101.out; have hnc15 := NB101_105.out; obtain ⟨hcz16_0, hcz16_1, hfz16_0, hfz16_1⟩ := zc2 BK105))
  go_ret
  exact ⟨zF, (zB HB)⟩
end Go.Proofs.YtekjfodfedpioaaDoor.F
end
section
namespace Go.Proofs.YtekjfodfedpioaaDoor.F
open Go.RowKit Go.Proofs.YtekjfodfedpioaaDoorW.PrintWords Go.Proofs.YtekjfodfedpioaaDoorW.PrintLast Go.Proofs.YtekjfodfedpioaaDoorW.PrintMore
attribute [local go_sem] max2_int min2_int max_two min_two max_three min_three max_four min_four cell_setCell_isSome
set_option linter.unusedVariables false
set_option linter.unusedSimpArgs false
open Kd
def op_row_sum.l0 : Nat → Int → List (S55) → Int → Int → Option (Int)
  | 0, _, _, _, _ => none
  | k + 1, x5, x8, x9, x10 => if x10 < x9 then (if 0 ≤ x10 then (if x10 < (x8.length : Int) then ((span_In.f ((rd_T55 x8 x10).f0) ((rd_T55 x8 x10).f1) ((rd_T55 x8 x10).f2)).bind fun t103 => (op_row_sum.l0 k (wrap64 (x5 + t103)) x8 x9 (wrap64 (x10 + 1)))) else (none)) else (none)) else (some x5)
def op_row_sum.f (k : Nat) (l0 : List (S55)) : Option (Int) := op_row_sum.l0 k 0 l0 (l0.length : Int) 0
theorem op_row_sum.mono_l : ∀ k, (∀ y0 y1 y2 y3, LeO (op_row_sum.l0 k y0 y1 y2 y3) (op_row_sum.l0 (k + 1) y0 y1 y2 y3))
  | 0 => fun _ _ _ _ r h => by simp [op_row_sum.l0] at h
  | k + 1 => by
    have ih0 := op_row_sum.mono_l k
    · intro y0 y1 y2 y3
      unfold op_row_sum.l0
      repeat' first
      | (with_reducible exact ih0 _ _ _ _)
      | (with_reducible exact LeO.refl _)
      | (with_reducible exact LeO.none _)
      | (with_reducible refine LeO.ite ?_ ?_)
      | (with_reducible refine LeO.bind ?_ (fun _ => ?_))
      | exact ih0 _ _ _ _
      | exact LeO.none _
      | refine LeO.ite ?_ ?_
      | refine LeO.bind ?_ (fun _ => ?_)
theorem op_row_sum.mono : ∀ a0 k, LeO (op_row_sum.f k a0) (op_row_sum.f (k + 1) a0) := by
  intro a0 k
  have ih0 := op_row_sum.mono_l k
  unfold op_row_sum.f
  repeat' first
      | (with_reducible exact ih0 _ _ _ _)
      | (with_reducible exact LeO.refl _)
      | (with_reducible exact LeO.none _)
      | (with_reducible refine LeO.ite ?_ ?_)
      | (with_reducible refine LeO.bind ?_ (fun _ => ?_))
      | exact ih0 _ _ _ _
      | exact LeO.none _
      | refine LeO.ite ?_ ?_
      | refine LeO.bind ?_ (fun _ => ?_)
set_option maxHeartbeats 40000000 in
set_option maxRecDepth 100000 in
theorem op_row_sum.calls (k : Nat) (A0 : Option Addr) (c0 : Nat) (l0 : List (S55)) (r : Int) (w : World) (hG : Glob w) (hr0 : Kd.C k55 w A0 l0.length l0) (hc0 : l0.length ≤ c0) (h : op_row_sum.f k l0 = some r) :
  Calls Tryd.prog 37 #[.slice A0 l0.length c0, .func (.func 56) #[] #[]] w fun e w' => e = .returned (.int .i64 r) ∧ Below w.heap.size w w' := by
 have hu55 := Tryd.underlying55
 have HG := Am hG;clear hG;have HR0 := Am hr0;have HC0 := Am hc0;clear hr0 hc0;have HB := Am (Below.refl w.heap.size w)
 have H : (op_row_sum.l0 k 0 l0 (l0.length : Int) 0) = some r := h
 clear h;have H' := Am H
 clear H;go_enter Tryd.func37, Tryd.ntmps37
 go_wp2
 go_loopg [5, 10] k (fun kq v5 v10 w' => ∃ (x5_1 : Int) (x10_1 : Int), v5 = .int .i64 x5_1 ∧ v10 = .int .i64 x10_1 ∧ Aside0 (op_row_sum.l0 kq x5_1 l0 (l0.length : Int) x10_1 = some r) ∧ Aside0 (kq ≤ k) ∧ Aside0 (Below w.heap.size w w'))
 case atStart => exact ⟨(0), (0), zG, zG, H', ⟨Nat.le_refl _⟩, ⟨(zB HB)⟩⟩
 case round =>
  clear H';obtain ⟨x5_1, x10_1, rfl, rfl, HA, HK1, HB⟩ := hrel
  cases gk with
  | zero => exact absurd HA.out (by simp [op_row_sum.l0])
  | succ k1 =>
   have H := HA.out;clear HA;simp only [op_row_sum.l0] at H
   by_cases c2 : x10_1 < (l0.length : Int)
   ·rw [if_pos c2] at H;have c2b0 : decide (x10_1 < (l0.length : Int)) = true := decide_eq_true c2
    clear c2;by_cases c3 : 0 ≤ x10_1
    ·rw [if_pos c3] at H;have c3b0 : decide (0 ≤ x10_1) = true := decide_eq_true c3
     clear c3;by_cases c4 : x10_1 < (l0.length : Int)
     ·rw [if_pos c4] at H;have c4b0 : decide (x10_1 < (l0.length : Int)) = true := decide_eq_true c4
      clear c4;replace H := Option.bind_eq_some_iff.mp H;obtain ⟨t103, A50, H⟩ := H;replace H : (op_row_sum.l0 k1 (wrap64 (x5_1 + t103)) l0 (l0.length : Int) (wrap64 (x10_1 + 1))) = some r := H
      have A5 := Am A50;clear A50;have H' := Am H
      clear H;have p101 : 0 ≤ (x10_1 : Int) := of_decide_eq_true (by assumption)
      have q101 : x10_1 < (l0.length : Int) := of_decide_eq_true (by assumption)
      obtain ⟨ad101, e101, hx101_0, hx101_1, hx101_2⟩ := at_T55 HR0.out x10_1 p101 q101
      cases e101
      replace hx101_0 := (HB.out.cell (World.block_lt_of_cell? w _ hx101_0)).trans hx101_0
      replace hx101_1 := (HB.out.cell (World.block_lt_of_cell? w _ hx101_1)).trans hx101_1
      replace hx101_2 := (HB.out.cell (World.block_lt_of_cell? w _ hx101_2)).trans hx101_2
      replace p101 := eq_true p101;replace q101 := eq_true q101;go_wp2_with (first | ((with_reducible refine gate_dst (N := 7) rfl ?_); refine box_event ?hg (N := 7) ?hd (cs := #[.int .i64 0, .int .i64 0, .string (⟨#[]⟩ : ByteArray)]) (t := 55) ?hr ?_; (case hd => rfl); (case hg => rfl); (case hr => first | (go_simp; done) | (go_simp; rfl)); intro gb102 hg w6 hbox hb; have BK102 := Am (hbox);have GW102 := Am (zO (w := w) HB hg);have GE102 := Am (zO (w := w) HB hg);replace HB := Am (below_step (zB HB) hb); clear hb hbox hg; obtain ⟨hcz7_0, hcz7_1, hcz7_2, hfz7_0, hfz7_1, hfz7_2⟩ := zc3 BK102) | ((with_reducible refine gate_value (x := .tmp 15) rfl ?_); refine goesV_ (some 17) rfl rfl Tryd.func56 (by kernel_rfl) rfl #[.agg #[.int .i64 ((rd_T55 l0 x10_1).f0), .int .i64 ((rd_T55 l0 x10_1).f1), .string ((rd_T55 l0 x10_1).f2)]] rfl rfl zE ?_; (with_reducible refine (span_In.calls ((rd_T55 l0 x10_1).f0) ((rd_T55 l0 x10_1).f1) ((rd_T55 l0 x10_1).f2) t103 _ ?side1 A5.out).mono ?_); (case side1 => exact zg HG HB); rintro e w8 ⟨rfl, hb⟩; refine ⟨_, rfl, ?_⟩; replace BK102 := Am (blk_below (g := gb102) (o := .cells #[.int .i64 ((rd_T55 l0 x10_1).f0), .int .i64 ((rd_T55 l0 x10_1).f1), .string ((rd_T55 l0 x10_1).f2)] 55 (0, 0)) (zP BK102) hb);replace HB := Am (below_step (zB HB) hb); (try clear hb)))
      go_roundg k1
      case measure => have := HK1.out; omega
      case rel => exact ⟨(wrap64 (x5_1 + t103)), (wrap64 (x10_1 + 1)), zG, zG, H', ⟨by have := HK1.out; omega⟩, ⟨(zB HB)⟩⟩
     ·rw [if_neg c4] at H;exact absurd H (by simp)
    ·rw [if_neg c3] at H;exact absurd H (by simp)
   ·rw [if_neg c2] at H;have c2b0 : decide (x10_1 < (l0.length : Int)) = false := decide_eq_false c2
    clear c2;obtain rfl := Option.some.inj H;go_wp2
    go_ret
    exact ⟨zF, (zB HB)⟩
end Go.Proofs.YtekjfodfedpioaaDoor.F
end
section
namespace Go.Proofs.YtekjfodfedpioaaDoor.F
open Go.RowKit Go.Proofs.YtekjfodfedpioaaDoorW.PrintWords Go.Proofs.YtekjfodfedpioaaDoorW.PrintLast Go.Proofs.YtekjfodfedpioaaDoorW.PrintMore
attribute [local go_sem] max2_int min2_int max_two min_two max_three min_three max_four min_four cell_setCell_isSome
set_option linter.unusedVariables false
set_option linter.unusedSimpArgs false
open Kd
def op_In.f (k : Nat) (l0 : List (S55)) : Option (Int) := (op_row_sum.f k l0).bind fun t101 => (some t101)
theorem op_In.mono : ∀ a0 k, LeO (op_In.f k a0) (op_In.f (k + 1) a0) := by
  intro a0 k
  unfold op_In.f
  repeat' first
      | (with_reducible exact op_row_sum.mono _ _)
      | (with_reducible exact LeO.refl _)
      | (with_reducible exact LeO.none _)
      | (with_reducible refine LeO.ite ?_ ?_)
      | (with_reducible refine LeO.bind ?_ (fun _ => ?_))
      | exact op_row_sum.mono _ _
      | exact LeO.none _
      | refine LeO.ite ?_ ?_
      | refine LeO.bind ?_ (fun _ => ?_)
set_option maxHeartbeats 40000000 in
set_option maxRecDepth 100000 in
theorem op_In.calls (k : Nat) (A0 : Option Addr) (c0 : Nat) (l0 : List (S55)) (r : Int) (w : World) (hG : Glob w) (hr0 : Kd.C k55 w A0 l0.length l0) (hc0 : l0.length ≤ c0) (h : op_In.f k l0 = some r) :
  Calls Tryd.prog 25 #[.slice A0 l0.length c0] w fun e w' => e = .returned (.int .i64 r) ∧ Below w.heap.size w w' := by
 have HG := Am hG;clear hG;have HR0 := Am hr0;have HC0 := Am hc0;clear hr0 hc0;have HB := Am (Below.refl w.heap.size w)
 have H : ((op_row_sum.f k l0).bind fun t101 => (some t101)) = some r := h
 clear h;replace H := Option.bind_eq_some_iff.mp H;obtain ⟨t101, A20, H⟩ := H;replace H : (some t101) = some r := H
 have A2 := Am A20;clear A20;obtain rfl := Option.some.inj H;go_enter Tryd.func25, Tryd.ntmps25
 go_wp2_with (first | ((with_reducible refine gate_value (x := .tmp 4) rfl ?_); refine goesV_ (some 6) rfl rfl Tryd.func37 (by kernel_rfl) rfl #[.slice A0 l0.length c0, .func (.func 56) #[] #[]] rfl rfl zE ?_; (with_reducible refine (op_row_sum.calls k _ _ l0 t101 _ ?side1 ?side2 ?side3 A2.out).mono ?_); (case side1 => exact zg HG HB); (case side2 => exact zI HR0.out); (case side3 => exact HC0.out); rintro e w3 ⟨rfl, hb⟩; refine ⟨_, rfl, ?_⟩; replace HB := Am (below_step (zB HB) hb); (try clear hb)))
 go_ret
 exact ⟨zF, (zB HB)⟩
end Go.Proofs.YtekjfodfedpioaaDoor.F
end
section
namespace Go.Proofs
open Go.Shelf
def Tryd.laysValid_ren : Go.Shelf.Ren := ⟨fun | 196 => 71 | 259 => 90 | n => n, fun | 9 => 9 | 4 => 4 | 3 => 3 | 5 => 5 | 12 => 12 | 119 => 112 | 0 => 0 | 46 => 116 | 139 => 115 | 138 => 114 | 53 => 119 | n => n, fun | 3 => 1 | 4 => 2 | n => n⟩
theorem Tryd.laysValid : Go.Proofs.Lays.n196 Tryd.prog Tryd.laysValid_ren := {
  mixed := by kernel_rfl
  f196 := Tryd.func71.trans (congrArg some (by kernel_rfl))
  f259 := Tryd.func90.trans (congrArg some (by kernel_rfl))
  t0 := Tryd.underlying0
  a0 := Tryd.isAgg0
  z0 := Tryd.sizeOf0
  v0 := Tryd.zeroValue0
  t3 := Tryd.underlying3
  a3 := Tryd.isAgg3
  z3 := Tryd.sizeOf3
  v3 := Tryd.zeroValue3
  t4 := Tryd.underlying4
  a4 := Tryd.isAgg4
  z4 := Tryd.sizeOf4
  v4 := Tryd.zeroValue4
  t5 := Tryd.underlying5
  a5 := Tryd.isAgg5
  z5 := Tryd.sizeOf5
  v5 := Tryd.zeroValue5
  t9 := Tryd.underlying9
  a9 := Tryd.isAgg9
  z9 := Tryd.sizeOf9
  v9 := Tryd.zeroValue9
  t12 := Tryd.underlying12
  a12 := Tryd.isAgg12
  z12 := Tryd.sizeOf12
  v12 := Tryd.zeroValue12
  t46 := Tryd.underlying116
  a46 := Tryd.isAgg116
  z46 := Tryd.sizeOf116
  v46 := Tryd.zeroValue116
  t53 := Tryd.underlying119
  a53 := Tryd.isAgg119
  z53 := Tryd.sizeOf119
  v53 := Tryd.zeroValue119
  t119 := Tryd.underlying112
  a119 := Tryd.isAgg112
  z119 := Tryd.sizeOf112
  t138 := Tryd.underlying114
  a138 := Tryd.isAgg114
  z138 := Tryd.sizeOf114
  v138 := Tryd.zeroValue114
  t139 := Tryd.underlying115
  a139 := Tryd.isAgg115
  z139 := Tryd.sizeOf115
  v139 := Tryd.zeroValue115
  g3 := by kernel_rfl
  g4 := by kernel_rfl }
end Go.Proofs
end
section
namespace Go.Proofs.YtekjfodfedpioaaDoor.F
open Go.RowKit Go.Proofs.YtekjfodfedpioaaDoorW.PrintWords Go.Proofs.YtekjfodfedpioaaDoorW.PrintLast Go.Proofs.YtekjfodfedpioaaDoorW.PrintMore
set_option linter.unusedVariables false
set_option linter.unusedSimpArgs false
def utf8_ValidString.f (a0 : ByteArray) : Option Bool := if a0.size ≤ 9223372036854775807 then some (Lib.validD a0.data.toList) else none
theorem utf8_ValidString.calls (a0 : ByteArray) (r : Bool) (w : World) (hG : Glob w) (h : utf8_ValidString.f a0 = some r) :
  Calls Tryd.prog 71 #[.string a0] w fun e w' => e = .returned (.bool r) ∧ Below w.heap.size w w' := by
 unfold utf8_ValidString.f at h
 split at h
 ·next hs =>
  obtain rfl := Option.some.inj h
  exact Any.utf8_ValidString Tryd.laysValid a0 w hs hG.tabs
 ·cases h
end Go.Proofs.YtekjfodfedpioaaDoor.F
end
section
namespace Go.Proofs.YtekjfodfedpioaaDoor.F
open Go.RowKit Go.Proofs.YtekjfodfedpioaaDoorW.PrintWords Go.Proofs.YtekjfodfedpioaaDoorW.PrintLast Go.Proofs.YtekjfodfedpioaaDoorW.PrintMore
attribute [local go_sem] max2_int min2_int max_two min_two max_three min_three max_four min_four cell_setCell_isSome
set_option linter.unusedVariables false
set_option linter.unusedSimpArgs false
open Kd
def points_Valid.f (a0 : ByteArray) : Option (Bool) := (utf8_ValidString.f a0).bind fun t101 => (some t101)
set_option maxHeartbeats 40000000 in
set_option maxRecDepth 100000 in
theorem points_Valid.calls (a0 : ByteArray) (r : Bool) (w : World) (hG : Glob w) (h : points_Valid.f a0 = some r) :
  Calls Tryd.prog 45 #[.string a0] w fun e w' => e = .returned (.bool r) ∧ Below w.heap.size w w' := by
 have HG := Am hG;clear hG;have HB := Am (Below.refl w.heap.size w)
 have H : ((utf8_ValidString.f a0).bind fun t101 => (some t101)) = some r := h
 clear h;replace H := Option.bind_eq_some_iff.mp H;obtain ⟨t101, A20, H⟩ := H;replace H : (some t101) = some r := H
 have A2 := Am A20;clear A20;obtain rfl := Option.some.inj H;go_enter Tryd.func45, Tryd.ntmps45
 go_wp2_with (first | ((with_reducible refine gate_callee (f := 71) rfl ?_); refine goesL_ (some 4) rfl rfl Tryd.func71 (by kernel_rfl) rfl #[.string a0] rfl zE ?_; (with_reducible refine (utf8_ValidString.calls a0 t101 _ ?side1 A2.out).mono ?_); (case side1 => exact zg HG HB); rintro e w3 ⟨rfl, hb⟩; refine ⟨_, rfl, ?_⟩; replace HB := Am (below_step (zB HB) hb); (try clear hb)))
 go_ret
 exact ⟨zF, (zB HB)⟩
end Go.Proofs.YtekjfodfedpioaaDoor.F
end
section
namespace Go.Proofs.YtekjfodfedpioaaDoor.F
open Go.RowKit Go.Proofs.YtekjfodfedpioaaDoorW.PrintWords Go.Proofs.YtekjfodfedpioaaDoorW.PrintLast Go.Proofs.YtekjfodfedpioaaDoorW.PrintMore
attribute [local go_sem] max2_int min2_int max_two min_two max_three min_three max_four min_four cell_setCell_isSome
set_option linter.unusedVariables false
set_option linter.unusedSimpArgs false
open Kd
mutual
def span_May.j0 : Nat → Bool → Int → Int → ByteArray → Bool → Bool → Option (Int)
  | 0, _, _, _, _, _, _ => none
  | k + 1, x13, x102000, x102001, x102002, x106000, x106001 => if x13 = true then (span_May.j1 k x13 x102000 x102001 x102002 x106000 x106001) else (if x106000 = true then (span_May.j1 k false x102000 x102001 x102002 x106000 x106001) else (span_May.j1 k (x102001 != 0) x102000 x102001 x102002 x106000 x106001))
def span_May.j1 : Nat → Bool → Int → Int → ByteArray → Bool → Bool → Option (Int)
  | 0, _, _, _, _, _, _ => none
  | k + 1, x13, x102000, x102001, x102002, x106000, x106001 => if x13 = true then (some 2) else (if x106000 = true then (span_May.j2 k (x102002.toList != ([] : List UInt8)) x102000 x102001 x102002) else (span_May.j2 k false x102000 x102001 x102002))
def span_May.j2 : Nat → Bool → Int → Int → ByteArray → Option (Int)
  | 0, _, _, _, _ => none
  | k + 1, x34, x102000, x102001, x102002 => if x34 = true then (some 3) else ((points_Valid.f x102002).bind fun t106 => (if t106 = true then (some 0) else (some 3)))
end
def span_May.f (k : Nat) (a0_0 : Int) (a0_1 : Int) (a0_2 : ByteArray) : Option (Int) := (span_of.f a0_0 a0_1 a0_2).bind fun bt102 => (if bt102.2.2 = true then (if bt102.1 = true then (if a0_1 < 0 then (span_May.j0 k true a0_0 a0_1 a0_2 bt102.1 bt102.2.1) else (span_May.j0 k (decide (a0_1 > 1048576)) a0_0 a0_1 a0_2 bt102.1 bt102.2.1)) else (span_May.j0 k false a0_0 a0_1 a0_2 bt102.1 bt102.2.1)) else (some 1))
theorem span_May.mono_l : ∀ k, (∀ y0 y1 y2 y3 y4 y5, LeO (span_May.j0 k y0 y1 y2 y3 y4 y5) (span_May.j0 (k + 1) y0 y1 y2 y3 y4 y5)) ∧ (∀ y0 y1 y2 y3 y4 y5, LeO (span_May.j1 k y0 y1 y2 y3 y4 y5) (span_May.j1 (k + 1) y0 y1 y2 y3 y4 y5)) ∧ (∀ y0 y1 y2 y3, LeO (span_May.j2 k y0 y1 y2 y3) (span_May.j2 (k + 1) y0 y1 y2 y3))
  | 0 => ⟨fun _ _ _ _ _ _ r h => by simp [span_May.j0] at h, fun _ _ _ _ _ _ r h => by simp [span_May.j1] at h, fun _ _ _ _ r h => by simp [span_May.j2] at h⟩
  | k + 1 => by
    obtain ⟨ih0, ih1, ih2⟩ := span_May.mono_l k
    refine ⟨?_, ?_, ?_⟩
    · intro y0 y1 y2 y3 y4 y5
      unfold span_May.j0
      repeat' first
      | (with_reducible exact ih0 _ _ _ _ _ _)
      | (with_reducible exact ih1 _ _ _ _ _ _)
      | (with_reducible exact ih2 _ _ _ _)
      | (with_reducible exact LeO.refl _)
      | (with_reducible exact LeO.none _)
      | (with_reducible refine LeO.ite ?_ ?_)
      | (with_reducible refine LeO.bind ?_ (fun _ => ?_))
      | exact ih0 _ _ _ _ _ _
      | exact ih1 _ _ _ _ _ _
      | exact ih2 _ _ _ _
      | exact LeO.none _
      | refine LeO.ite ?_ ?_
      | refine LeO.bind ?_ (fun _ => ?_)
    · intro y0 y1 y2 y3 y4 y5
      unfold span_May.j1
      repeat' first
      | (with_reducible exact ih0 _ _ _ _ _ _)
      | (with_reducible exact ih1 _ _ _ _ _ _)
      | (with_reducible exact ih2 _ _ _ _)
      | (with_reducible exact LeO.refl _)
      | (with_reducible exact LeO.none _)
      | (with_reducible refine LeO.ite ?_ ?_)
      | (with_reducible refine LeO.bind ?_ (fun _ => ?_))
      | exact ih0 _ _ _ _ _ _
      | exact ih1 _ _ _ _ _ _
      | exact ih2 _ _ _ _
      | exact LeO.none _
      | refine LeO.ite ?_ ?_
      | refine LeO.bind ?_ (fun _ => ?_)
    · intro y0 y1 y2 y3
      unfold span_May.j2
      repeat' first
      | (with_reducible exact ih0 _ _ _ _ _ _)
      | (with_reducible exact ih1 _ _ _ _ _ _)
      | (with_reducible exact ih2 _ _ _ _)
      | (with_reducible exact LeO.refl _)
      | (with_reducible exact LeO.none _)
      | (with_reducible refine LeO.ite ?_ ?_)
      | (with_reducible refine LeO.bind ?_ (fun _ => ?_))
      | exact ih0 _ _ _ _ _ _
      | exact ih1 _ _ _ _ _ _
      | exact ih2 _ _ _ _
      | exact LeO.none _
      | refine LeO.ite ?_ ?_
      | refine LeO.bind ?_ (fun _ => ?_)
theorem span_May.mono : ∀ a0 a1 a2 k, LeO (span_May.f k a0 a1 a2) (span_May.f (k + 1) a0 a1 a2) := by
  intro a0 a1 a2 k
  obtain ⟨ih0, ih1, ih2⟩ := span_May.mono_l k
  unfold span_May.f
  repeat' first
      | (with_reducible exact ih0 _ _ _ _ _ _)
      | (with_reducible exact ih1 _ _ _ _ _ _)
      | (with_reducible exact ih2 _ _ _ _)
      | (with_reducible exact LeO.refl _)
      | (with_reducible exact LeO.none _)
      | (with_reducible refine LeO.ite ?_ ?_)
      | (with_reducible refine LeO.bind ?_ (fun _ => ?_))
      | exact ih0 _ _ _ _ _ _
      | exact ih1 _ _ _ _ _ _
      | exact ih2 _ _ _ _
      | exact LeO.none _
      | refine LeO.ite ?_ ?_
      | refine LeO.bind ?_ (fun _ => ?_)
set_option maxHeartbeats 40000000 in
set_option maxRecDepth 100000 in
theorem span_May.calls (k : Nat) (a0_0 : Int) (a0_1 : Int) (a0_2 : ByteArray) (r : Int) (w : World) (hG : Glob w) (h : span_May.f k a0_0 a0_1 a0_2 = some r) :
  Calls Tryd.prog 67 #[.agg #[.int .i64 a0_0, .int .i64 a0_1, .string a0_2]] w fun e w' => e = .returned (.int .i64 r) ∧ Below w.heap.size w w' := by
 have hu55 := Tryd.underlying55
 have hu86 := Tryd.underlying86
 have HG := Am hG;clear hG;have HB := Am (Below.refl w.heap.size w)
 have H : ((span_of.f a0_0 a0_1 a0_2).bind fun bt102 => (if bt102.2.2 = true then (if bt102.1 = true then (if a0_1 < 0 then (span_May.j0 k true a0_0 a0_1 a0_2 bt102.1 bt102.2.1) else (span_May.j0 k (decide (a0_1 > 1048576)) a0_0 a0_1 a0_2 bt102.1 bt102.2.1)) else (span_May.j0 k false a0_0 a0_1 a0_2 bt102.1 bt102.2.1)) else (some 1))) = some r := h
 clear h;replace H := Option.bind_eq_some_iff.mp H;obtain ⟨⟨t102, t103, t104⟩, A20, H⟩ := H;have A2 := Am A20;clear A20;by_cases c3 : t104 = true
 ·subst c3
  have H1 : (if t102 = true then (if a0_1 < 0 then (span_May.j0 k true a0_0 a0_1 a0_2 t102 t103) else (span_May.j0 k (decide (a0_1 > 1048576)) a0_0 a0_1 a0_2 t102 t103)) else (span_May.j0 k false a0_0 a0_1 a0_2 t102 t103)) = some r := by rw [if_pos rfl] at H; exact H
  clear H;have H := H1
  clear H1;have HC4 := Am H;clear H;go_enter Tryd.func67, Tryd.ntmps67
  go_upto_region 4 with (first | ((with_reducible refine gate_dst (N := 1) rfl ?_); refine box_event ?hg (N := 1) ?hd (cs := #[.int .i64 a0_0, .int .i64 a0_1, .string a0_2]) (t := 55) ?hr ?_; (case hd => rfl); (case hg => rfl); (case hr => first | (go_simp; done) | (go_simp; rfl)); intro gb101 hg w5 hbox hb; have BK101 := Am (hbox);have GW101 := Am (zO (w := w) HB hg);have GE101 := Am (zO (w := w) HB hg);replace HB := Am (below_step (zB HB) hb); clear hb hbox hg; obtain ⟨hcz6_0, hcz6_1, hcz6_2, hfz6_0, hfz6_1, hfz6_2⟩ := zc3 BK101) | ((with_reducible refine gate_callee (f := 66) rfl ?_); refine goesL_ (some 7) rfl rfl Tryd.func66 (by kernel_rfl) rfl #[.agg #[.int .i64 a0_0, .int .i64 a0_1, .string a0_2]] rfl zE ?_; (with_reducible refine (span_of.calls a0_0 a0_1 a0_2 t102 t103 true _ ?side1 A2.out).mono ?_); (case side1 => exact zg HG HB); rintro e w7 ⟨rfl, hb⟩; refine ⟨_, rfl, ?_⟩; replace BK101 := Am (zU BK101 hb);replace HB := Am (below_step (zB HB) hb); (try clear hb)) | ((with_reducible refine gate_dst (N := 3) rfl ?_); refine box_event ?hg (N := 3) ?hd (cs := #[.bool false, .bool false]) (t := 86) ?hr ?_; (case hd => rfl); (case hg => rfl); (case hr => first | (go_simp; done) | (go_simp; rfl)); intro gb105 hg w8 hbox hb; have BK105 := Am (hbox);have GW105 := Am (zO (w := w) HB hg);have GE105 := Am (zO (w := w) HB hg);replace HB := Am (below_step (zB HB) hb);have NB101_105 := Am ((by rw [hg]; exact Nat.ne_of_lt (zL BK101) : gb101 ≠ gb105));have NB105_101 := Am ((by rw [hg]; exact Nat.ne_of_gt (zL BK101) : gb105 ≠ gb101));replace BK101 := Am (zU BK101 hb); clear hb hbox hg; have hnb9 := NB105_101.out; have hnc9 := NB101_105.out; obtain ⟨hcz10_0, hcz10_1, hfz10_0, hfz10_1⟩ := zc2 BK105))
  (try simp only [Act.put, zS])
  go_cut [13] (fun v13 wc => ∃ (kq : Nat) (x13_3 : Bool), v13 = .bool x13_3 ∧ Aside0 (span_May.j0 kq x13_3 a0_0 a0_1 a0_2 t102 t103 = some r) ∧ Aside0 (kq ≤ k) ∧ Aside0 (wc.heap[gb101]? = some (.cells #[.int .i64 a0_0, .int .i64 a0_1, .string a0_2] 55 (0, 0))) ∧ Aside0 (wc.heap[gb105]? = some (.cells #[.bool t102, .bool t103] 86 (0, 0))) ∧ Aside0 (Below w.heap.size w wc))
  case first =>
   have H := HC4.out;clear HC4;by_cases c11 : t102 = true
   ·subst c11
    have H1 : (if a0_1 < 0 then (span_May.j0 k true a0_0 a0_1 a0_2 true t103) else (span_May.j0 k (decide (a0_1 > 1048576)) a0_0 a0_1 a0_2 true t103)) = some r := by rw [if_pos rfl] at H; exact H
    clear H;have H := H1
    clear H1;by_cases c12 : a0_1 < 0
    ·rw [if_pos c12] at H;have c12b0 : decide (a0_1 < 0) = true := decide_eq_true c12
     clear c12;(first | rw [c12b0] | (simp only [i64_w, i32_w]; rw [c12b0]) | skip)
     have H' := Am H
     clear H;have hnb13 := NB105_101.out;have hnc13 := NB101_105.out;obtain ⟨hcz14_0, hcz14_1, hfz14_0, hfz14_1⟩ := zc2 BK105;obtain ⟨hcz15_0, hcz15_1, hcz15_2, hfz15_0, hfz15_1, hfz15_2⟩ := zc3 BK101;go_wp2
     go_meet
     case rel => exact ⟨_, (true), zG, H', ⟨by first | omega | exact Nat.le_refl _⟩, ⟨(zK BK101)⟩, ⟨(zP BK105)⟩, ⟨(zB HB)⟩⟩
    ·rw [if_neg c12] at H;have c12b0 : decide (a0_1 < 0) = false := decide_eq_false c12
     clear c12;(first | rw [c12b0] | (simp only [i64_w, i32_w]; rw [c12b0]) | skip)
     have H' := Am H
     clear H;have hnb16 := NB105_101.out;have hnc16 := NB101_105.out;obtain ⟨hcz17_0, hcz17_1, hfz17_0, hfz17_1⟩ := zc2 BK105;obtain ⟨hcz18_0, hcz18_1, hcz18_2, hfz18_0, hfz18_1, hfz18_2⟩ := zc3 BK101;go_wp2
     go_meet
     case rel => exact ⟨_, (decide (a0_1 > 1048576)), zG, H', ⟨by first | omega | exact Nat.le_refl _⟩, ⟨(zK BK101)⟩, ⟨(zP BK105)⟩, ⟨(zB HB)⟩⟩
   ·replace c11 := Bool.eq_false_iff.mpr c11
    subst c11
    have H1 : (span_May.j0 k false a0_0 a0_1 a0_2 false t103) = some r := by rw [if_neg (show ¬ (false = true) by decide)] at H; exact H
    clear H;have H := H1
    clear H1;have H' := Am H
    clear H;have hnb19 := NB105_101.out;have hnc19 := NB101_105.out;obtain ⟨hcz20_0, hcz20_1, hfz20_0, hfz20_1⟩ := zc2 BK105;go_wp2
    go_meet
    case rel => exact ⟨_, (false), zG, H', ⟨by first | omega | exact Nat.le_refl _⟩, ⟨(zK BK101)⟩, ⟨(zP BK105)⟩, ⟨(zB HB)⟩⟩
  case rest =>
   clear HC4;(try clear c1);(try clear p2);(try clear c3);(try clear c6);(try clear c9);(try clear c11);(try clear c12);(try clear c12b0);(try clear c13);(try clear c16);(try clear c19);(try clear hcz10_0);(try clear hcz10_1);(try clear hcz14_0);(try clear hcz14_1);(try clear hcz15_0);(try clear hcz15_1);(try clear hcz15_2);(try clear hcz17_0);(try clear hcz17_1);(try clear hcz18_0);(try clear hcz18_1);(try clear hcz18_2);(try clear hcz20_0);(try clear hcz20_1);(try clear hcz6_0);(try clear hcz6_1);(try clear hcz6_2);(try clear hfz10_0);(try clear hfz10_1);(try clear hfz14_0);(try clear hfz14_1);(try clear hfz15_0);(try clear hfz15_1);(try clear hfz15_2);(try clear hfz17_0);(try clear hfz17_1);(try clear hfz18_0);(try clear hfz18_1);(try clear hfz18_2);(try clear hfz20_0);(try clear hfz20_1);(try clear hfz6_0);(try clear hfz6_1);(try clear hfz6_2);obtain ⟨kq, x13_3, rfl, HA, HJ3, BK101, BK105, HB⟩ := hcut
   cases kq with
   | zero => exact absurd HA.out (by simp [span_May.j0])
   | succ kj3 =>
    have H := HA.out;clear HA;simp only [span_May.j0] at H
    have HC21 := Am H;clear H;go_upto_if 13 with (fail)
    go_cut [13] (fun v13 wc => ∃ (kq : Nat) (x13_20 : Bool), v13 = .bool x13_20 ∧ Aside0 (span_May.j1 kq x13_20 a0_0 a0_1 a0_2 t102 t103 = some r) ∧ Aside0 (kq ≤ kj3) ∧ Aside0 (wc.heap[gb101]? = some (.cells #[.int .i64 a0_0, .int .i64 a0_1, .string a0_2] 55 (0, 0))) ∧ Aside0 (wc.heap[gb105]? = some (.cells #[.bool t102, .bool t103] 86 (0, 0))) ∧ Aside0 (Below w.heap.size w wc))
    case first =>
     have H := HC21.out;clear HC21;by_cases c22 : x13_3 = true
     ·subst c22
      have H1 : (span_May.j1 kj3 true a0_0 a0_1 a0_2 t102 t103) = some r := by rw [if_pos rfl] at H; exact H
      clear H;have H := H1
      clear H1;have H' := Am H
      clear H;go_wp2
      go_meet
      case rel => exact ⟨_, (true), zG, H', ⟨by have := HJ3.out; first | omega | exact Nat.le_refl _⟩, ⟨(zK BK101)⟩, ⟨(zK BK105)⟩, ⟨(zB HB)⟩⟩
     ·replace c22 := Bool.eq_false_iff.mpr c22
      subst c22
      have H1 : (if t102 = true then (span_May.j1 kj3 false a0_0 a0_1 a0_2 t102 t103) else (span_May.j1 kj3 (a0_1 != 0) a0_0 a0_1 a0_2 t102 t103)) = some r := by rw [if_neg (show ¬ (false = true) by decide)] at H; exact H
      clear H;have H := H1
      clear H1;by_cases c23 : t102 = true
      ·subst c23
       have H1 : (span_May.j1 kj3 false a0_0 a0_1 a0_2 true t103) = some r := by rw [if_pos rfl] at H; exact H
       clear H;have H := H1
       clear H1;have H' := Am H
       clear H;have hnb24 := NB105_101.out;have hnc24 := NB101_105.out;obtain ⟨hcz25_0, hcz25_1, hfz25_0, hfz25_1⟩ := zc2 BK105;go_wp2
       go_meet
       case rel => exact ⟨_, (false), zG, H', ⟨by have := HJ3.out; first | omega | exact Nat.le_refl _⟩, ⟨(zK BK101)⟩, ⟨(zK BK105)⟩, ⟨(zB HB)⟩⟩
      ·replace c23 := Bool.eq_false_iff.mpr c23
       subst c23
       have H1 : (span_May.j1 kj3 (a0_1 != 0) a0_0 a0_1 a0_2 false t103) = some r := by rw [if_neg (show ¬ (false = true) by decide)] at H; exact H
       clear H;have H := H1
       clear H1;have H' := Am H
       clear H;have hnb26 := NB105_101.out;have hnc26 := NB101_105.out;obtain ⟨hcz27_0, hcz27_1, hfz27_0, hfz27_1⟩ := zc2 BK105;obtain ⟨hcz28_0, hcz28_1, hcz28_2, hfz28_0, hfz28_1, hfz28_2⟩ := zc3 BK101;go_wp2
       go_meet
       case rel => exact ⟨_, ((a0_1 != 0)), zG, H', ⟨by have := HJ3.out; first | omega | exact Nat.le_refl _⟩, ⟨(zK BK101)⟩, ⟨(zK BK105)⟩, ⟨(zB HB)⟩⟩
    case rest =>
     clear HC21;(try clear c1);(try clear c2);(try clear p2);(try clear c3);(try clear c6);(try clear c9);(try clear c11);(try clear c12);(try clear c12b0);(try clear c13);(try clear c16);(try clear c19);(try clear c22);(try clear c23);(try clear c24);(try clear c26);(try clear hcz10_0);(try clear hcz10_1);(try clear hcz14_0);(try clear hcz14_1);(try clear hcz15_0);(try clear hcz15_1);(try clear hcz15_2);(try clear hcz17_0);(try clear hcz17_1);(try clear hcz18_0);(try clear hcz18_1);(try clear hcz18_2);(try clear hcz20_0);(try clear hcz20_1);(try clear hcz25_0);(try clear hcz25_1);(try clear hcz27_0);(try clear hcz27_1);(try clear hcz28_0);(try clear hcz28_1);(try clear hcz28_2);(try clear hcz6_0);(try clear hcz6_1);(try clear hcz6_2);(try clear hfz10_0);(try clear hfz10_1);(try clear hfz14_0);(try clear hfz14_1);(try clear hfz15_0);(try clear hfz15_1);(try clear hfz15_2);(try clear hfz17_0);(try clear hfz17_1);(try clear hfz18_0);(try clear hfz18_1);(try clear hfz18_2);(try clear hfz20_0);(try clear hfz20_1);(try clear hfz25_0);(try clear hfz25_1);(try clear hfz27_0);(try clear hfz27_1);(try clear hfz28_0);(try clear hfz28_1);(try clear hfz28_2);(try clear hfz6_0);(try clear hfz6_1);(try clear hfz6_2);(try clear p2);obtain ⟨kq, x13_20, rfl, HA, HJ20, BK101, BK105, HB⟩ := hcut
     cases kq with
     | zero => exact absurd HA.out (by simp [span_May.j1])
     | succ kj20 =>
      have H := HA.out;clear HA;simp only [span_May.j1] at H
      by_cases c29 : x13_20 = true
      ·subst c29
       have H1 : (some 2) = some r := by rw [if_pos rfl] at H; exact H
       clear H;have H := H1
       clear H1;obtain rfl := Option.some.inj H;go_wp2
       go_ret
       exact ⟨zF, (zB HB)⟩
      ·replace c29 := Bool.eq_false_iff.mpr c29
       subst c29
       have H1 : (if t102 = true then (span_May.j2 kj20 (a0_2.toList != ([] : List UInt8)) a0_0 a0_1 a0_2) else (span_May.j2 kj20 false a0_0 a0_1 a0_2)) = some r := by rw [if_neg (show ¬ (false = true) by decide)] at H; exact H
       clear H;have H := H1
       clear H1;have HC30 := Am H;clear H;go_upto_region 7 with (fail)
       go_cut [34] (fun v34 wc => ∃ (kq : Nat) (x34_29 : Bool), v34 = .bool x34_29 ∧ Aside0 (span_May.j2 kq x34_29 a0_0 a0_1 a0_2 = some r) ∧ Aside0 (kq ≤ kj20) ∧ Aside0 (wc.heap[gb101]? = some (.cells #[.int .i64 a0_0, .int .i64 a0_1, .string a0_2] 55 (0, 0))) ∧ Aside0 (wc.heap[gb105]? = some (.cells #[.bool t102, .bool t103] 86 (0, 0))) ∧ Aside0 (Below w.heap.size w wc))
       case first =>
        have H := HC30.out;clear HC30;by_cases c31 : t102 = true
        ·subst c31
         have H1 : (span_May.j2 kj20 (a0_2.toList != ([] : List UInt8)) a0_0 a0_1 a0_2) = some r := by rw [if_pos rfl] at H; exact H
         clear H;have H := H1
         clear H1;have H' := Am H
         clear H;have hnb32 := NB105_101.out;have hnc32 := NB101_105.out;obtain ⟨hcz33_0, hcz33_1, hfz33_0, hfz33_1⟩ := zc2 BK105;obtain ⟨hcz34_0, hcz34_1, hcz34_2, hfz34_0, hfz34_1, hfz34_2⟩ := zc3 BK101;go_wp2
         go_meet
         case rel => exact ⟨_, ((a0_2.toList != ([] : List UInt8))), zG, H', ⟨by have := HJ3.out; have := HJ20.out; first | omega | exact Nat.le_refl _⟩, ⟨(zK BK101)⟩, ⟨(zK BK105)⟩, ⟨(zB HB)⟩⟩
        ·replace c31 := Bool.eq_false_iff.mpr c31
         subst c31
         have H1 : (span_May.j2 kj20 false a0_0 a0_1 a0_2) = some r := by rw [if_neg (show ¬ (false = true) by decide)] at H; exact H
         clear H;have H := H1
         clear H1;have H' := Am H
         clear H;have hnb35 := NB105_101.out;have hnc35 := NB101_105.out;obtain ⟨hcz36_0, hcz36_1, hfz36_0, hfz36_1⟩ := zc2 BK105;go_wp2
         go_meet
         case rel => exact ⟨_, (false), zG, H', ⟨by have := HJ3.out; have := HJ20.out; first | omega | exact Nat.le_refl _⟩, ⟨(zK BK101)⟩, ⟨(zK BK105)⟩, ⟨(zB HB)⟩⟩
       case rest =>
        clear HC30;(try clear c1);(try clear c2);(try clear p2);(try clear c3);(try clear c6);(try clear c9);(try clear c11);(try clear c12);(try clear c12b0);(try clear c13);(try clear c16);(try clear c19);(try clear c22);(try clear c23);(try clear c24);(try clear c26);(try clear c29);(try clear c31);(try clear c32);(try clear c35);(try clear hcz10_0);(try clear hcz10_1);(try clear hcz14_0);(try clear hcz14_1);(try clear hcz15_0);(try clear hcz15_1);(try clear hcz15_2);(try clear hcz17_0);(try clear hcz17_1);(try clear hcz18_0);(try clear hcz18_1);(try clear hcz18_2);(try clear hcz20_0);(try clear hcz20_1);(try clear hcz25_0);(try clear hcz25_1);(try clear hcz27_0);(try clear hcz27_1);(try clear hcz28_0);(try clear hcz28_1);(try clear hcz28_2);(try clear hcz33_0);(try clear hcz33_1);(try clear hcz34_0);(try clear hcz34_1);(try clear hcz34_2);(try clear hcz36_0);(try clear hcz36_1);(try clear hcz6_0);(try clear hcz6_1);(try clear hcz6_2);(try clear hfz10_0);(try clear hfz10_1);(try clear hfz14_0);(try clear hfz14_1);(try clear hfz15_0);(try clear hfz15_1);(try clear hfz15_2);(try clear hfz17_0);(try clear hfz17_1);(try clear hfz18_0);(try clear hfz18_1);(try clear hfz18_2);(try clear hfz20_0);(try clear hfz20_1);(try clear hfz25_0);(try clear hfz25_1);(try clear hfz27_0);(try clear hfz27_1);(try clear hfz28_0);(try clear hfz28_1);(try clear hfz28_2);(try clear hfz33_0);(try clear hfz33_1);(try clear hfz34_0);(try clear hfz34_1);(try clear hfz34_2);(try clear hfz36_0);(try clear hfz36_1);(try clear hfz6_0);(try clear hfz6_1);(try clear hfz6_2);(try clear p2);obtain ⟨kq, x34_29, rfl, HA, HJ29, BK101, BK105, HB⟩ := hcut
        cases kq with
        | zero => exact absurd HA.out (by simp [span_May.j2])
        | succ kj29 =>
         have H := HA.out;clear HA;simp only [span_May.j2] at H
         by_cases c37 : x34_29 = true
         ·subst c37
          have H1 : (some 3) = some r := by rw [if_pos rfl] at H; exact H
          clear H;have H := H1
          clear H1;obtain rfl := Option.some.inj H;go_wp2
          go_ret
          exact ⟨zF, (zB HB)⟩
         ·replace c37 := Bool.eq_false_iff.mpr c37
          subst c37
          have H1 : ((points_Valid.f a0_2).bind fun t106 => (if t106 = true then (some 0) else (some 3))) = some r := by rw [if_neg (show ¬ (false = true) by decide)] at H; exact H
          clear H;have H := H1
          clear H1;replace H := Option.bind_eq_some_iff.mp H;obtain ⟨t106, A380, H⟩ := H;replace H : (if t106 = true then (some 0) else (some 3)) = some r := H
          have A38 := Am A380;clear A380;by_cases c39 : t106 = true
          ·subst c39
           have H1 : (some 0) = some r := by rw [if_pos rfl] at H; exact H
           clear H;have H := H1
           clear H1;obtain rfl := Option.some.inj H;have hnb40 := NB101_105.out;have hnc40 := NB105_101.out;obtain ⟨hcz41_0, hcz41_1, hcz41_2, hfz41_0, hfz41_1, hfz41_2⟩ := zc3 BK101;go_wp2_with (first | ((with_reducible refine gate_callee (f := 45) rfl ?_); refine goesL_ (some 44) rfl rfl Tryd.func45 (by kernel_rfl) rfl #[.string a0_2] rfl zE ?_; (with_reducible refine (points_Valid.calls a0_2 true _ ?side1 A38.out).mono ?_); (case side1 => exact zg HG HB); rintro e w42 ⟨rfl, hb⟩; refine ⟨_, rfl, ?_⟩; replace BK101 := Am (zU BK101 hb);replace BK105 := Am (zU BK105 hb);replace HB := Am (below_step (zB HB) hb); (try clear hb)))
           go_ret
           exact ⟨zF, (zB HB)⟩
          ·replace c39 := Bool.eq_false_iff.mpr c39
           subst c39
           have H1 : (some 3) = some r := by rw [if_neg (show ¬ (false = true) by decide)] at H; exact H
           clear H;have H := H1
           clear H1;obtain rfl := Option.some.inj H;have hnb43 := NB101_105.out;have hnc43 := NB105_101.out;obtain ⟨hcz44_0, hcz44_1, hcz44_2, hfz44_0, hfz44_1, hfz44_2⟩ := zc3 BK101;go_wp2_with (first | ((with_reducible refine gate_callee (f := 45) rfl ?_); refine goesL_ (some 44) rfl rfl Tryd.func45 (by kernel_rfl) rfl #[.string a0_2] rfl zE ?_; (with_reducible refine (points_Valid.calls a0_2 false _ ?side1 A38.out).mono ?_); (case side1 => exact zg HG HB); rintro e w45 ⟨rfl, hb⟩; refine ⟨_, rfl, ?_⟩; replace BK101 := Am (zU BK101 hb);replace BK105 := Am (zU BK105 hb);replace HB := Am (below_step (zB HB) hb); (try clear hb)))
           go_ret
           exact ⟨zF, (zB HB)⟩
 ·replace c3 := Bool.eq_false_iff.mpr c3
  subst c3
  have H1 : (some 1) = some r := by rw [if_neg (show ¬ (false = true) by decide)] at H; exact H
  clear H;have H := H1
  clear H1;obtain rfl := Option.some.inj H;go_enter Tryd.func67, Tryd.ntmps67
  go_wp2_with (first | ((with_reducible refine gate_dst (N := 1) rfl ?_); refine box_event ?hg (N := 1) ?hd (cs := #[.int .i64 a0_0, .int .i64 a0_1, .string a0_2]) (t := 55) ?hr ?_; (case hd => rfl); (case hg => rfl); (case hr => first | (go_simp; done) | (go_simp; rfl)); intro gb101 hg w46 hbox hb; have BK101 := Am (hbox);have GW101 := Am (zO (w := w) HB hg);have GE101 := Am (zO (w := w) HB hg);replace HB := Am (below_step (zB HB) hb); clear hb hbox hg; obtain ⟨hcz47_0, hcz47_1, hcz47_2, hfz47_0, hfz47_1, hfz47_2⟩ := zc3 BK101) | ((with_reducible refine gate_callee (f := 66) rfl ?_); refine goesL_ (some 7) rfl rfl Tryd.func66 (by kernel_rfl) rfl #[.agg #[.int .i64 a0_0, .int .i64 a0_1, .string a0_2]] rfl zE ?_; (with_reducible refine (span_of.calls a0_0 a0_1 a0_2 t102 t103 false _ ?side1 A2.out).mono ?_); (case side1 => exact zg HG HB); rintro e w48 ⟨rfl, hb⟩; refine ⟨_, rfl, ?_⟩; replace BK101 := Am (zU BK101 hb);replace HB := Am (below_step (zB HB) hb); (try clear hb)) | ((with_reducible refine gate_dst (N := 3) rfl ?_); refine box_event ?hg (N := 3) ?hd (cs := #[.bool false, .bool false]) (t := 86) ?hr ?_; (case hd => rfl); (case hg => rfl); (case hr => first | (go_simp; done) | (go_simp; rfl)); intro gb105 hg w49 hbox hb; have BK105 := Am (hbox);have GW105 := Am (zO (w := w) HB hg);have GE105 := Am (zO (w := w) HB hg);replace HB := Am (below_step (zB HB) hb);have NB101_105 := Am ((by rw [hg]; exact Nat.ne_of_lt (zL BK101) : gb101 ≠ gb105));have NB105_101 := Am ((by rw [hg]; exact Nat.ne_of_gt (zL BK101) : gb105 ≠ gb101));replace BK101 := Am (zU BK101 hb); clear hb hbox hg; have hnb50 := NB105_101.out; have hnc50 := NB101_105.out; obtain ⟨hcz51_0, hcz51_1, hfz51_0, hfz51_1⟩ := zc2 BK105))
  go_ret
  exact ⟨zF, (zB HB)⟩
end Go.Proofs.YtekjfodfedpioaaDoor.F
end
section
namespace Go.Proofs.YtekjfodfedpioaaDoor.F
open Go.RowKit Go.Proofs.YtekjfodfedpioaaDoorW.PrintWords Go.Proofs.YtekjfodfedpioaaDoorW.PrintLast Go.Proofs.YtekjfodfedpioaaDoorW.PrintMore
attribute [local go_sem] max2_int min2_int max_two min_two max_three min_three max_four min_four cell_setCell_isSome
set_option linter.unusedVariables false
set_option linter.unusedSimpArgs false
open Kd
def op_May.l0 : Nat → List (S55) → List (S55) → Int → Int → Option (Int)
  | 0, _, _, _, _ => none
  | k + 1, x0, x6, x7, x8 => if x8 < x7 then (if 0 ≤ x8 then (if x8 < (x6.length : Int) then ((span_May.f k ((rd_T55 x6 x8).f0) ((rd_T55 x6 x8).f1) ((rd_T55 x6 x8).f2)).bind fun t103 => (if t103 = 0 then (op_May.l0 k x0 x6 x7 (wrap64 (x8 + 1))) else (some t103))) else (none)) else (none)) else ((op_In.f k x0).bind fun t104 => (if t104 > 1048576 then (some 4) else (some 0)))
def op_May.f (k : Nat) (l0 : List (S55)) : Option (Int) := op_May.l0 k l0 l0 (l0.length : Int) 0
theorem op_May.mono_l : ∀ k, (∀ y0 y1 y2 y3, LeO (op_May.l0 k y0 y1 y2 y3) (op_May.l0 (k + 1) y0 y1 y2 y3))
  | 0 => fun _ _ _ _ r h => by simp [op_May.l0] at h
  | k + 1 => by
    have ih0 := op_May.mono_l k
    · intro y0 y1 y2 y3
      unfold op_May.l0
      repeat' first
      | (with_reducible exact ih0 _ _ _ _)
      | (with_reducible exact op_In.mono _ _)
      | (with_reducible exact span_May.mono _ _ _ _)
      | (with_reducible exact LeO.refl _)
      | (with_reducible exact LeO.none _)
      | (with_reducible refine LeO.ite ?_ ?_)
      | (with_reducible refine LeO.bind ?_ (fun _ => ?_))
      | exact ih0 _ _ _ _
      | exact op_In.mono _ _
      | exact span_May.mono _ _ _ _
      | exact LeO.none _
      | refine LeO.ite ?_ ?_
      | refine LeO.bind ?_ (fun _ => ?_)
theorem op_May.mono : ∀ a0 k, LeO (op_May.f k a0) (op_May.f (k + 1) a0) := by
  intro a0 k
  have ih0 := op_May.mono_l k
  unfold op_May.f
  repeat' first
      | (with_reducible exact ih0 _ _ _ _)
      | (with_reducible exact op_In.mono _ _)
      | (with_reducible exact span_May.mono _ _ _ _)
      | (with_reducible exact LeO.refl _)
      | (with_reducible exact LeO.none _)
      | (with_reducible refine LeO.ite ?_ ?_)
      | (with_reducible refine LeO.bind ?_ (fun _ => ?_))
      | exact ih0 _ _ _ _
      | exact op_In.mono _ _
      | exact span_May.mono _ _ _ _
      | exact LeO.none _
      | refine LeO.ite ?_ ?_
      | refine LeO.bind ?_ (fun _ => ?_)
set_option maxHeartbeats 40000000 in
set_option maxRecDepth 100000 in
theorem op_May.calls (k : Nat) (A0 : Option Addr) (c0 : Nat) (l0 : List (S55)) (r : Int) (w : World) (hG : Glob w) (hr0 : Kd.C k55 w A0 l0.length l0) (hc0 : l0.length ≤ c0) (h : op_May.f k l0 = some r) :
  Calls Tryd.prog 39 #[.slice A0 l0.length c0] w fun e w' => e = .returned (.int .i64 r) ∧ Below w.heap.size w w' := by
 have hu55 := Tryd.underlying55
 have HG := Am hG;clear hG;have HR0 := Am hr0;have HC0 := Am hc0;clear hr0 hc0;have HB := Am (Below.refl w.heap.size w)
 have H : (op_May.l0 k l0 l0 (l0.length : Int) 0) = some r := h
 clear h;have H' := Am H
 clear H;go_enter Tryd.func39, Tryd.ntmps39
 go_wp2
 go_loopg [8] k (fun kq v8 w' => ∃ (x8_1 : Int), v8 = .int .i64 x8_1 ∧ Aside0 (op_May.l0 kq l0 l0 (l0.length : Int) x8_1 = some r) ∧ Aside0 (kq ≤ k) ∧ Aside0 (Below w.heap.size w w'))
 case atStart => exact ⟨(0), zG, H', ⟨Nat.le_refl _⟩, ⟨(zB HB)⟩⟩
 case round =>
  clear H';obtain ⟨x8_1, rfl, HA, HK1, HB⟩ := hrel
  cases gk with
  | zero => exact absurd HA.out (by simp [op_May.l0])
  | succ k1 =>
   have H := HA.out;clear HA;simp only [op_May.l0] at H
   by_cases c2 : x8_1 < (l0.length : Int)
   ·rw [if_pos c2] at H;have c2b0 : decide (x8_1 < (l0.length : Int)) = true := decide_eq_true c2
    clear c2;by_cases c3 : 0 ≤ x8_1
    ·rw [if_pos c3] at H;have c3b0 : decide (0 ≤ x8_1) = true := decide_eq_true c3
     clear c3;by_cases c4 : x8_1 < (l0.length : Int)
     ·rw [if_pos c4] at H;have c4b0 : decide (x8_1 < (l0.length : Int)) = true := decide_eq_true c4
      clear c4;replace H := Option.bind_eq_some_iff.mp H;obtain ⟨t103, A50, H⟩ := H;replace H : (if t103 = 0 then (op_May.l0 k1 l0 l0 (l0.length : Int) (wrap64 (x8_1 + 1))) else (some t103)) = some r := H
      have A5 := Am A50;clear A50;by_cases c6 : t103 = 0
      ·rw [if_pos c6] at H;have c6b0 : (t103 == 0) = true := beq_iff_eq.mpr c6
       have c6b1 : (t103 != 0) = false := bne_eq_false_iff_eq.mpr c6
       clear c6;have H' := Am H
       clear H;have p101 : 0 ≤ (x8_1 : Int) := of_decide_eq_true (by assumption)
       have q101 : x8_1 < (l0.length : Int) := of_decide_eq_true (by assumption)
       obtain ⟨ad101, e101, hx101_0, hx101_1, hx101_2⟩ := at_T55 HR0.out x8_1 p101 q101
       cases e101
       replace hx101_0 := (HB.out.cell (World.block_lt_of_cell? w _ hx101_0)).trans hx101_0
       replace hx101_1 := (HB.out.cell (World.block_lt_of_cell? w _ hx101_1)).trans hx101_1
       replace hx101_2 := (HB.out.cell (World.block_lt_of_cell? w _ hx101_2)).trans hx101_2
       replace p101 := eq_true p101;replace q101 := eq_true q101;go_wp2_with (first | ((with_reducible refine gate_dst (N := 4) rfl ?_); refine box_event ?hg (N := 4) ?hd (cs := #[.int .i64 0, .int .i64 0, .string (⟨#[]⟩ : ByteArray)]) (t := 55) ?hr ?_; (case hd => rfl); (case hg => rfl); (case hr => first | (go_simp; done) | (go_simp; rfl)); intro gb102 hg w7 hbox hb; have BK102 := Am (hbox);have GW102 := Am (zO (w := w) HB hg);have GE102 := Am (zO (w := w) HB hg);replace HB := Am (below_step (zB HB) hb); clear hb hbox hg; obtain ⟨hcz8_0, hcz8_1, hcz8_2, hfz8_0, hfz8_1, hfz8_2⟩ := zc3 BK102) | ((with_reducible refine gate_callee (f := 67) rfl ?_); refine goesL_ (some 13) rfl rfl Tryd.func67 (by kernel_rfl) rfl #[.agg #[.int .i64 ((rd_T55 l0 x8_1).f0), .int .i64 ((rd_T55 l0 x8_1).f1), .string ((rd_T55 l0 x8_1).f2)]] rfl zE ?_; (with_reducible refine (span_May.calls k1 ((rd_T55 l0 x8_1).f0) ((rd_T55 l0 x8_1).f1) ((rd_T55 l0 x8_1).f2) t103 _ ?side1 A5.out).mono ?_); (case side1 => exact zg HG HB); rintro e w9 ⟨rfl, hb⟩; refine ⟨_, rfl, ?_⟩; replace BK102 := Am (blk_below (g := gb102) (o := .cells #[.int .i64 ((rd_T55 l0 x8_1).f0), .int .i64 ((rd_T55 l0 x8_1).f1), .string ((rd_T55 l0 x8_1).f2)] 55 (0, 0)) (zP BK102) hb);replace HB := Am (below_step (zB HB) hb); (try clear hb)))
       go_roundg k1
       case measure => have := HK1.out; omega
       case rel => exact ⟨(wrap64 (x8_1 + 1)), zG, H', ⟨by have := HK1.out; omega⟩, ⟨(zB HB)⟩⟩
      ·rw [if_neg c6] at H;have c6b0 : (t103 == 0) = false := beq_eq_false_iff_ne.mpr c6
       have c6b1 : (t103 != 0) = true := bne_iff_ne.mpr c6
       obtain rfl := Option.some.inj H;have p101 : 0 ≤ (x8_1 : Int) := of_decide_eq_true (by assumption)
       have q101 : x8_1 < (l0.length : Int) := of_decide_eq_true (by assumption)
       obtain ⟨ad101, e101, hx101_0, hx101_1, hx101_2⟩ := at_T55 HR0.out x8_1 p101 q101
       cases e101
       replace hx101_0 := (HB.out.cell (World.block_lt_of_cell? w _ hx101_0)).trans hx101_0
       replace hx101_1 := (HB.out.cell (World.block_lt_of_cell? w _ hx101_1)).trans hx101_1
       replace hx101_2 := (HB.out.cell (World.block_lt_of_cell? w _ hx101_2)).trans hx101_2
       replace p101 := eq_true p101;replace q101 := eq_true q101;go_wp2_with (first | ((with_reducible refine gate_dst (N := 4) rfl ?_); refine box_event ?hg (N := 4) ?hd (cs := #[.int .i64 0, .int .i64 0, .string (⟨#[]⟩ : ByteArray)]) (t := 55) ?hr ?_; (case hd => rfl); (case hg => rfl); (case hr => first | (go_simp; done) | (go_simp; rfl)); intro gb102 hg w10 hbox hb; have BK102 := Am (hbox);have GW102 := Am (zO (w := w) HB hg);have GE102 := Am (zO (w := w) HB hg);replace HB := Am (below_step (zB HB) hb); clear hb hbox hg; obtain ⟨hcz11_0, hcz11_1, hcz11_2, hfz11_0, hfz11_1, hfz11_2⟩ := zc3 BK102) | ((with_reducible refine gate_callee (f := 67) rfl ?_); refine goesL_ (some 13) rfl rfl Tryd.func67 (by kernel_rfl) rfl #[.agg #[.int .i64 ((rd_T55 l0 x8_1).f0), .int .i64 ((rd_T55 l0 x8_1).f1), .string ((rd_T55 l0 x8_1).f2)]] rfl zE ?_; (with_reducible refine (span_May.calls k1 ((rd_T55 l0 x8_1).f0) ((rd_T55 l0 x8_1).f1) ((rd_T55 l0 x8_1).f2) t103 _ ?side1 A5.out).mono ?_); (case side1 => exact zg HG HB); rintro e w12 ⟨rfl, hb⟩; refine ⟨_, rfl, ?_⟩; replace BK102 := Am (blk_below (g := gb102) (o := .cells #[.int .i64 ((rd_T55 l0 x8_1).f0), .int .i64 ((rd_T55 l0 x8_1).f1), .string ((rd_T55 l0 x8_1).f2)] 55 (0, 0)) (zP BK102) hb);replace HB := Am (below_step (zB HB) hb); (try clear hb)))
       go_ret
       exact ⟨zF, (zB HB)⟩
     ·rw [if_neg c4] at H;exact absurd H (by simp)
    ·rw [if_neg c3] at H;exact absurd H (by simp)
   ·rw [if_neg c2] at H;have c2b0 : decide (x8_1 < (l0.length : Int)) = false := decide_eq_false c2
    clear c2;replace H := Option.bind_eq_some_iff.mp H;obtain ⟨t104, A130, H⟩ := H;replace H : (if t104 > 1048576 then (some 4) else (some 0)) = some r := H
    have A13 := Am A130;clear A130;by_cases c14 : t104 > 1048576
    ·rw [if_pos c14] at H;have c14b0 : decide (1048576 < t104) = true := decide_eq_true c14
     clear c14;obtain rfl := Option.some.inj H;go_wp2_with (first | ((with_reducible refine gate_callee (f := 25) rfl ?_); refine goesL_ (some 19) rfl rfl Tryd.func25 (by kernel_rfl) rfl #[.slice A0 l0.length c0] rfl zE ?_; (with_reducible refine (op_In.calls k1 _ _ l0 t104 _ ?side1 ?side2 ?side3 A13.out).mono ?_); (case side1 => exact zg HG HB); (case side2 => exact zI (C_below HR0.out HB.out)); (case side3 => exact HC0.out); rintro e w15 ⟨rfl, hb⟩; refine ⟨_, rfl, ?_⟩; replace HB := Am (below_step (zB HB) hb); (try clear hb)))
     go_ret
     exact ⟨zF, (zB HB)⟩
    ·rw [if_neg c14] at H;have c14b0 : decide (1048576 < t104) = false := decide_eq_false c14
     clear c14;obtain rfl := Option.some.inj H;go_wp2_with (first | ((with_reducible refine gate_callee (f := 25) rfl ?_); refine goesL_ (some 19) rfl rfl Tryd.func25 (by kernel_rfl) rfl #[.slice A0 l0.length c0] rfl zE ?_; (with_reducible refine (op_In.calls k1 _ _ l0 t104 _ ?side1 ?side2 ?side3 A13.out).mono ?_); (case side1 => exact zg HG HB); (case side2 => exact zI (C_below HR0.out HB.out)); (case side3 => exact HC0.out); rintro e w16 ⟨rfl, hb⟩; refine ⟨_, rfl, ?_⟩; replace HB := Am (below_step (zB HB) hb); (try clear hb)))
     go_ret
     exact ⟨zF, (zB HB)⟩
end Go.Proofs.YtekjfodfedpioaaDoor.F
end
section
namespace Go.Proofs.YtekjfodfedpioaaDoor.F
open Go.RowKit Go.Proofs.YtekjfodfedpioaaDoorW.PrintWords Go.Proofs.YtekjfodfedpioaaDoorW.PrintLast Go.Proofs.YtekjfodfedpioaaDoorW.PrintMore
set_option linter.unusedVariables false
set_option linter.unusedSimpArgs false
def points_Count.f (a0 : ByteArray) : Option Int := if a0.size ≤ 9223372036854775807 then some (if Lib.validD a0.data.toList = true then (Lib.runeCount a0 : Int) else -1) else none
theorem valid_some {a0 : ByteArray} {b : Bool} (hs : a0.size ≤ 9223372036854775807) (h : Lib.validD a0.data.toList = b) : points_Valid.f a0 = some b := by
  unfold points_Valid.f utf8_ValidString.f
  rw [if_pos (by omega), h]
  rfl
set_option maxHeartbeats 4000000 in
theorem points_Count.calls (a0 : ByteArray) (r : Int) (w : World) (hG : Glob w) (h : points_Count.f a0 = some r) :
  Calls Tryd.prog 14 #[.string a0] w fun e w' => e = .returned (.int .i64 r) ∧ Below w.heap.size w w' := by
 have HG := Aside0.mk hG;clear hG;unfold points_Count.f at h
 split at h
 ·next hs =>
  obtain rfl := Option.some.inj h
  clear h;have HS := Aside0.mk hs;cases hv : Lib.validD a0.data.toList with
  | false =>
   have HV := Aside0.mk (valid_some hs hv)
   clear hv hs;go_enter Tryd.func14, Tryd.ntmps14
   go_wp2_with (go_at_call 45; (with_reducible refine (points_Valid.calls _ _ _ HG.out HV.out).mono ?_); rintro e w' ⟨rfl, hb⟩; have HB := Aside0.mk hb; clear hb)
   go_ret
   exact ⟨rfl, HB.out⟩
  | true =>
   have HV := Aside0.mk (valid_some hs hv)
   clear hv hs;go_enter Tryd.func14, Tryd.ntmps14
   go_wp2_with (go_at_call 45; (with_reducible refine (points_Valid.calls _ _ _ HG.out HV.out).mono ?_); rintro e w' ⟨rfl, hb⟩; have HB := Aside0.mk hb; clear hb)
   obtain ⟨w1, rfl⟩ : ∃ w1 : World, w1 = w' := ⟨_, rfl⟩
   go_loopw [3] (fun n w' => ∃ (pos b acc : Nat), w' = w1.iter a0 pos ∧ n = .int .i64 acc ∧ acc + Lib.runeCountFrom a0 b pos = Lib.runeCount a0 ∧ a0.size ≤ pos + b ∧ acc ≤ pos) (fun _ w' => a0.size - w'.iterPos w1.heap.size)
   case atStart => exact ⟨0, a0.size, 0, rfl, rfl, by simp [Lib.runeCount], by omega, Nat.le_refl _⟩
   case round =>
    obtain ⟨pos, b, acc, rfl, rfl, hc, hb, ha⟩ := hrel
    have hs := HS.out;by_cases hp : pos < a0.size
    ·have hnx : ∀ ty, (Instr.next (.pointer (some ⟨w1.heap.size, 0, none⟩)) true ty).run Tryd.prog (w1.iter a0 pos) = _ := fun ty => run_next_any w1 a0 pos ty hp
     have hwd := Lib.decode_width_pos a0 pos hp
     go_wp2
     go_roundw
     case rel =>
      cases b with
      | zero => omega
      | succ b =>
       refine ⟨pos + (Utf8.decode a0 pos).2, b, acc + 1, rfl, by go_num, ?_, by omega, by omega⟩
       rw [← hc]
       simp [Lib.runeCountFrom, hp]
       omega
     case measure =>
      simp
      omega
    ·have hnx : ∀ ty, (Instr.next (.pointer (some ⟨w1.heap.size, 0, none⟩)) true ty).run Tryd.prog (w1.iter a0 pos) = _ := fun ty => run_next_end w1 a0 pos ty hp
     go_wp2
     go_ret
     rw [Lib.runeCountFrom_end a0 b pos hp, Nat.add_zero] at hc
     subst hc
     refine ⟨rfl, ?_⟩
     exact below_alloc HB.out _
 ·cases h
def runeAt (s : ByteArray) : Nat → Nat → Nat
 | 0, pos => pos
 | k + 1, pos => runeAt s k (pos + (Utf8.decode s pos).2)
theorem runeAt_snoc (s : ByteArray) : ∀ (k pos : Nat), runeAt s (k + 1) pos = runeAt s k pos + (Utf8.decode s (runeAt s k pos)).2
 | 0, _ => rfl
 | k + 1, pos => by rw [runeAt, runeAt_snoc s k]; rfl
def points_Cut.f (a0 : ByteArray) (a1 a2 : Int) : Option (ByteArray × Int) :=
 if a0.size < 9223372036854775807 then
  (if Lib.validD a0.data.toList = true then
   (if a1 < 0 then some (⟨#[]⟩, 6) else if a2 < a1 then some (⟨#[]⟩, 6) else if a2 > (Lib.runeCount a0 : Int) then some (⟨#[]⟩, 6)
   else if runeAt a0 a1.toNat 0 ≤ runeAt a0 a2.toNat 0 ∧ runeAt a0 a2.toNat 0 ≤ a0.size then some (a0.extract (runeAt a0 a1.toNat 0) (runeAt a0 a2.toNat 0), 0) else none)
  else some (⟨#[]⟩, 3))
 else none
end Go.Proofs.YtekjfodfedpioaaDoor.F
end
section
namespace Go.Proofs.YtekjfodfedpioaaDoor.F
open Go.RowKit Go.Proofs.YtekjfodfedpioaaDoorW.PrintWords Go.Proofs.YtekjfodfedpioaaDoorW.PrintLast Go.Proofs.YtekjfodfedpioaaDoorW.PrintMore
attribute [local go_sem] max2_int min2_int max_two min_two max_three min_three max_four min_four cell_setCell_isSome
set_option linter.unusedVariables false
set_option linter.unusedSimpArgs false
open Kd
def span_Out.f (a0_0 : Int) (a0_1 : Int) (a0_2 : ByteArray) : Option (Int) := (span_of.f a0_0 a0_1 a0_2).bind fun bt102 => (if bt102.2.1 = true then (some a0_1) else (if a0_0 = 2 then ((points_Count.f a0_2).bind fun t106 => (some (mx t106 0))) else (some 0)))
set_option maxHeartbeats 40000000 in
set_option maxRecDepth 100000 in
theorem span_Out.calls (a0_0 : Int) (a0_1 : Int) (a0_2 : ByteArray) (r : Int) (w : World) (hG : Glob w) (h : span_Out.f a0_0 a0_1 a0_2 = some r) :
  Calls Tryd.prog 38 #[.agg #[.int .i64 a0_0, .int .i64 a0_1, .string a0_2]] w fun e w' => e = .returned (.int .i64 r) ∧ Below w.heap.size w w' := by
 have hu55 := Tryd.underlying55
 have hu86 := Tryd.underlying86
 have HG := Am hG;clear hG;have HB := Am (Below.refl w.heap.size w)
 have H : ((span_of.f a0_0 a0_1 a0_2).bind fun bt102 => (if bt102.2.1 = true then (some a0_1) else (if a0_0 = 2 then ((points_Count.f a0_2).bind fun t106 => (some (mx t106 0))) else (some 0)))) = some r := h
 clear h;replace H := Option.bind_eq_some_iff.mp H;obtain ⟨⟨t102, t103, t104⟩, A20, H⟩ := H;have A2 := Am A20;clear A20;by_cases c3 : t103 = true
 ·subst c3
  have H1 : (some a0_1) = some r := by rw [if_pos rfl] at H; exact H
  clear H;have H := H1
  clear H1;obtain rfl := Option.some.inj H;go_enter Tryd.func38, Tryd.ntmps38
  go_wp2_with (first | ((with_reducible refine gate_dst (N := 1) rfl ?_); refine box_event ?hg (N := 1) ?hd (cs := #[.int .i64 a0_0, .int .i64 a0_1, .string a0_2]) (t := 55) ?hr ?_; (case hd => rfl); (case hg => rfl); (case hr => first | (go_simp; done) | (go_simp; rfl)); intro gb101 hg w4 hbox hb; have BK101 := Am (hbox);have GW101 := Am (zO (w := w) HB hg);have GE101 := Am (zO (w := w) HB hg);replace HB := Am (below_step (zB HB) hb); clear hb hbox hg; obtain ⟨hcz5_0, hcz5_1, hcz5_2, hfz5_0, hfz5_1, hfz5_2⟩ := zc3 BK101) | ((with_reducible refine gate_callee (f := 66) rfl ?_); refine goesL_ (some 7) rfl rfl Tryd.func66 (by kernel_rfl) rfl #[.agg #[.int .i64 a0_0, .int .i64 a0_1, .string a0_2]] rfl zE ?_; (with_reducible refine (span_of.calls a0_0 a0_1 a0_2 t102 true t104 _ ?side1 A2.out).mono ?_); (case side1 => exact zg HG HB); rintro e w6 ⟨rfl, hb⟩; refine ⟨_, rfl, ?_⟩; replace BK101 := Am (zU BK101 hb);replace HB := Am (below_step (zB HB) hb); (try clear hb)) | ((with_reducible refine gate_dst (N := 3) rfl ?_); refine box_event ?hg (N := 3) ?hd (cs := #[.bool false, .bool false]) (t := 86) ?hr ?_; (case hd => rfl); (case hg => rfl); (case hr => first | (go_simp; done) | (go_simp; rfl)); intro gb105 hg w7 hbox hb; have BK105 := Am (hbox);have GW105 := Am (zO (w := w) HB hg);have GE105 := Am (zO (w := w) HB hg);replace HB := Am (below_step (zB HB) hb);have NB101_105 := Am ((by rw [hg]; exact Nat.ne_of_lt (zL BK101) : gb101 ≠ gb105));have NB105_101 := Am ((by rw [hg]; exact Nat.ne_of_gt (zL BK101) : gb105 ≠ gb101));replace BK101 := Am (zU BK101 hb); clear hb hbox hg; have hnb8 := NB105_101.out; have hnc8 := NB101_105.out; obtain ⟨hcz9_0, hcz9_1, hfz9_0, hfz9_1⟩ := zc2 BK105; obtain ⟨hcz10_0, hcz10_1, hcz10_2, hfz10_0, hfz10_1, hfz10_2⟩ := zc3 BK101))
  go_ret
  exact ⟨zF, (zB HB)⟩
 ·replace c3 := Bool.eq_false_iff.mpr c3
  subst c3
  have H1 : (if a0_0 = 2 then ((points_Count.f a0_2).bind fun t106 => (some (mx t106 0))) else (some 0)) = some r := by rw [if_neg (show ¬ (false = true) by decide)] at H; exact H
  clear H;have H := H1
  clear H1;by_cases c11 : a0_0 = 2
  ·rw [if_pos c11] at H;have c11b0 : (a0_0 == 2) = true := beq_iff_eq.mpr c11
   have c11b1 : (a0_0 != 2) = false := bne_eq_false_iff_eq.mpr c11
   clear c11;replace H := Option.bind_eq_some_iff.mp H;obtain ⟨t106, A120, H⟩ := H;replace H : (some (mx t106 0)) = some r := H
   have A12 := Am A120;clear A120;obtain ⟨ji13, hji13⟩ : ∃ j_ : Int, (mx t106 0) = j_ := ⟨_, rfl⟩
   replace H : (some ji13) = some r := by first | (rw [hji13] at H; exact H) | (simp only [hji13] at H ⊢; exact H)
   (try rw [hji13] at A2)
   (try rw [hji13] at A12)
   (try (have hji13l : 0 ≤ ji13 := by (rw [← hji13]; unfold mx; (repeat' split) <;> omega)))
   (try (have hji13m : 0 ≤ ji13 := by omega))
   have hji13_ : (if t106 < 0 then 0 else t106) = ji13 := hji13
   obtain rfl := Option.some.inj H;go_enter Tryd.func38, Tryd.ntmps38
   go_wp2_with (first | ((with_reducible refine gate_dst (N := 1) rfl ?_); refine box_event ?hg (N := 1) ?hd (cs := #[.int .i64 a0_0, .int .i64 a0_1, .string a0_2]) (t := 55) ?hr ?_; (case hd => rfl); (case hg => rfl); (case hr => first | (go_simp; done) | (go_simp; rfl)); intro gb101 hg w14 hbox hb; have BK101 := Am (hbox);have GW101 := Am (zO (w := w) HB hg);have GE101 := Am (zO (w := w) HB hg);replace HB := Am (below_step (zB HB) hb); clear hb hbox hg; obtain ⟨hcz15_0, hcz15_1, hcz15_2, hfz15_0, hfz15_1, hfz15_2⟩ := zc3 BK101) | ((with_reducible refine gate_callee (f := 66) rfl ?_); refine goesL_ (some 7) rfl rfl Tryd.func66 (by kernel_rfl) rfl #[.agg #[.int .i64 a0_0, .int .i64 a0_1, .string a0_2]] rfl zE ?_; (with_reducible refine (span_of.calls a0_0 a0_1 a0_2 t102 false t104 _ ?side1 A2.out).mono ?_); (case side1 => exact zg HG HB); rintro e w16 ⟨rfl, hb⟩; refine ⟨_, rfl, ?_⟩; replace BK101 := Am (zU BK101 hb);replace HB := Am (below_step (zB HB) hb); (try clear hb)) | ((with_reducible refine gate_dst (N := 3) rfl ?_); refine box_event ?hg (N := 3) ?hd (cs := #[.bool false, .bool false]) (t := 86) ?hr ?_; (case hd => rfl); (case hg => rfl); (case hr => first | (go_simp; done) | (go_simp; rfl)); intro gb105 hg w17 hbox hb; have BK105 := Am (hbox);have GW105 := Am (zO (w := w) HB hg);have GE105 := Am (zO (w := w) HB hg);replace HB := Am (below_step (zB HB) hb);have NB101_105 := Am ((by rw [hg]; exact Nat.ne_of_lt (zL BK101) : gb101 ≠ gb105));have NB105_101 := Am ((by rw [hg]; exact Nat.ne_of_gt (zL BK101) : gb105 ≠ gb101));replace BK101 := Am (zU BK101 hb); clear hb hbox hg; have hnb18 := NB105_101.out; have hnc18 := NB101_105.out; obtain ⟨hcz19_0, hcz19_1, hfz19_0, hfz19_1⟩ := zc2 BK105; obtain ⟨hcz20_0, hcz20_1, hcz20_2, hfz20_0, hfz20_1, hfz20_2⟩ := zc3 BK101) | ((with_reducible refine gate_callee (f := 14) rfl ?_); refine goesL_ (some 21) rfl rfl Tryd.func14 (by kernel_rfl) rfl #[.string a0_2] rfl zE ?_; (with_reducible refine (points_Count.calls a0_2 t106 _ ?side1 A12.out).mono ?_); (case side1 => exact zg HG HB); rintro e w21 ⟨rfl, hb⟩; refine ⟨_, rfl, ?_⟩; replace BK101 := Am (zU BK101 hb);replace BK105 := Am (blk_below (g := gb105) (o := .cells #[.bool t102, .bool false] 86 (0, 0)) (zP BK105) hb);replace HB := Am (below_step (zB HB) hb); (try clear hb)))
   go_ret
   exact ⟨by first | rfl | (simp [errW_none, errW_some] <;> rfl) | (simp only [← hji13]; first | rfl | (simp [errW_none, errW_some] <;> rfl)) | (simp [*, errW_none, errW_some] <;> rfl), (zB HB)⟩
  ·rw [if_neg c11] at H;have c11b0 : (a0_0 == 2) = false := beq_eq_false_iff_ne.mpr c11
   have c11b1 : (a0_0 != 2) = true := bne_iff_ne.mpr c11
   obtain rfl := Option.some.inj H;go_enter Tryd.func38, Tryd.ntmps38
   go_wp2_with (first | ((with_reducible refine gate_dst (N := 1) rfl ?_); refine box_event ?hg (N := 1) ?hd (cs := #[.int .i64 a0_0, .int .i64 a0_1, .string a0_2]) (t := 55) ?hr ?_; (case hd => rfl); (case hg => rfl); (case hr => first | (go_simp; done) | (go_simp; rfl)); intro gb101 hg w22 hbox hb; have BK101 := Am (hbox);have GW101 := Am (zO (w := w) HB hg);have GE101 := Am (zO (w := w) HB hg);replace HB := Am (below_step (zB HB) hb); clear hb hbox hg; obtain ⟨hcz23_0, hcz23_1, hcz23_2, hfz23_0, hfz23_1, hfz23_2⟩ := zc3 BK101) | ((with_reducible refine gate_callee (f := 66) rfl ?_); refine goesL_ (some 7) rfl rfl Tryd.func66 (by kernel_rfl) rfl #[.agg #[.int .i64 a0_0, .int .i64 a0_1, .string a0_2]] rfl zE ?_; (with_reducible refine (span_of.calls a0_0 a0_1 a0_2 t102 false t104 _ ?side1 A2.out).mono ?_); (case side1 => exact zg HG HB); rintro e w24 ⟨rfl, hb⟩; refine ⟨_, rfl, ?_⟩; replace BK101 := Am (zU BK101 hb);replace HB := Am (below_step (zB HB) hb); (try clear hb)) | ((with_reducible refine gate_dst (N := 3) rfl ?_); refine box_event ?hg (N := 3) ?hd (cs := #[.bool false, .bool false]) (t := 86) ?hr ?_; (case hd => rfl); (case hg => rfl); (case hr => first | (go_simp; done) | (go_simp; rfl)); intro gb105 hg w25 hbox hb; have BK105 := Am (hbox);have GW105 := Am (zO (w := w) HB hg);have GE105 := Am (zO (w := w) HB hg);replace HB := Am (below_step (zB HB) hb);have NB101_105 := Am ((by rw [hg]; exact Nat.ne_of_lt (zL BK101) : gb101 ≠ gb105));have NB105_101 := Am ((by rw [hg]; exact Nat.ne_of_gt (zL BK101) : gb105 ≠ gb101));replace BK101 := Am (zU BK101 hb); clear hb hbox hg; have hnb26 := NB105_101.out; have hnc26 := NB101_105.out; obtain ⟨hcz27_0, hcz27_1, hfz27_0, hfz27_1⟩ := zc2 BK105; obtain ⟨hcz28_0, hcz28_1, hcz28_2, hfz28_0, hfz28_1, hfz28_2⟩ := zc3 BK101))
   go_ret
   exact ⟨zF, (zB HB)⟩
end Go.Proofs.YtekjfodfedpioaaDoor.F
end
section
namespace Go.Proofs.YtekjfodfedpioaaDoor.F
open Go.RowKit Go.Proofs.YtekjfodfedpioaaDoorW.PrintWords Go.Proofs.YtekjfodfedpioaaDoorW.PrintLast Go.Proofs.YtekjfodfedpioaaDoorW.PrintMore
attribute [local go_sem] max2_int min2_int max_two min_two max_three min_three max_four min_four cell_setCell_isSome
set_option linter.unusedVariables false
set_option linter.unusedSimpArgs false
open Kd
def op_row_sum_Out.l0 : Nat → Int → List (S55) → Int → Int → Option (Int)
  | 0, _, _, _, _ => none
  | k + 1, x5, x8, x9, x10 => if x10 < x9 then (if 0 ≤ x10 then (if x10 < (x8.length : Int) then ((span_Out.f ((rd_T55 x8 x10).f0) ((rd_T55 x8 x10).f1) ((rd_T55 x8 x10).f2)).bind fun t103 => (op_row_sum_Out.l0 k (wrap64 (x5 + t103)) x8 x9 (wrap64 (x10 + 1)))) else (none)) else (none)) else (some x5)
def op_row_sum_Out.f (k : Nat) (l0 : List (S55)) : Option (Int) := op_row_sum_Out.l0 k 0 l0 (l0.length : Int) 0
theorem op_row_sum_Out.mono_l : ∀ k, (∀ y0 y1 y2 y3, LeO (op_row_sum_Out.l0 k y0 y1 y2 y3) (op_row_sum_Out.l0 (k + 1) y0 y1 y2 y3))
  | 0 => fun _ _ _ _ r h => by simp [op_row_sum_Out.l0] at h
  | k + 1 => by
    have ih0 := op_row_sum_Out.mono_l k
    · intro y0 y1 y2 y3
      unfold op_row_sum_Out.l0
      repeat' first
      | (with_reducible exact ih0 _ _ _ _)
      | (with_reducible exact LeO.refl _)
      | (with_reducible exact LeO.none _)
      | (with_reducible refine LeO.ite ?_ ?_)
      | (with_reducible refine LeO.bind ?_ (fun _ => ?_))
      | exact ih0 _ _ _ _
      | exact LeO.none _
      | refine LeO.ite ?_ ?_
      | refine LeO.bind ?_ (fun _ => ?_)
theorem op_row_sum_Out.mono : ∀ a0 k, LeO (op_row_sum_Out.f k a0) (op_row_sum_Out.f (k + 1) a0) := by
  intro a0 k
  have ih0 := op_row_sum_Out.mono_l k
  unfold op_row_sum_Out.f
  repeat' first
      | (with_reducible exact ih0 _ _ _ _)
      | (with_reducible exact LeO.refl _)
      | (with_reducible exact LeO.none _)
      | (with_reducible refine LeO.ite ?_ ?_)
      | (with_reducible refine LeO.bind ?_ (fun _ => ?_))
      | exact ih0 _ _ _ _
      | exact LeO.none _
      | refine LeO.ite ?_ ?_
      | refine LeO.bind ?_ (fun _ => ?_)
set_option maxHeartbeats 40000000 in
set_option maxRecDepth 100000 in
theorem op_row_sum_Out.calls (k : Nat) (A0 : Option Addr) (c0 : Nat) (l0 : List (S55)) (r : Int) (w : World) (hG : Glob w) (hr0 : Kd.C k55 w A0 l0.length l0) (hc0 : l0.length ≤ c0) (h : op_row_sum_Out.f k l0 = some r) :
  Calls Tryd.prog 37 #[.slice A0 l0.length c0, .func (.func 38) #[] #[]] w fun e w' => e = .returned (.int .i64 r) ∧ Below w.heap.size w w' := by
 have hu55 := Tryd.underlying55
 have HG := Am hG;clear hG;have HR0 := Am hr0;have HC0 := Am hc0;clear hr0 hc0;have HB := Am (Below.refl w.heap.size w)
 have H : (op_row_sum_Out.l0 k 0 l0 (l0.length : Int) 0) = some r := h
 clear h;have H' := Am H
 clear H;go_enter Tryd.func37, Tryd.ntmps37
 go_wp2
 go_loopg [5, 10] k (fun kq v5 v10 w' => ∃ (x5_1 : Int) (x10_1 : Int), v5 = .int .i64 x5_1 ∧ v10 = .int .i64 x10_1 ∧ Aside0 (op_row_sum_Out.l0 kq x5_1 l0 (l0.length : Int) x10_1 = some r) ∧ Aside0 (kq ≤ k) ∧ Aside0 (Below w.heap.size w w'))
 case atStart => exact ⟨(0), (0), zG, zG, H', ⟨Nat.le_refl _⟩, ⟨(zB HB)⟩⟩
 case round =>
  clear H';obtain ⟨x5_1, x10_1, rfl, rfl, HA, HK1, HB⟩ := hrel
  cases gk with
  | zero => exact absurd HA.out (by simp [op_row_sum_Out.l0])
  | succ k1 =>
   have H := HA.out;clear HA;simp only [op_row_sum_Out.l0] at H
   by_cases c2 : x10_1 < (l0.length : Int)
   ·rw [if_pos c2] at H;have c2b0 : decide (x10_1 < (l0.length : Int)) = true := decide_eq_true c2
    clear c2;by_cases c3 : 0 ≤ x10_1
    ·rw [if_pos c3] at H;have c3b0 : decide (0 ≤ x10_1) = true := decide_eq_true c3
     clear c3;by_cases c4 : x10_1 < (l0.length : Int)
     ·rw [if_pos c4] at H;have c4b0 : decide (x10_1 < (l0.length : Int)) = true := decide_eq_true c4
      clear c4;replace H := Option.bind_eq_some_iff.mp H;obtain ⟨t103, A50, H⟩ := H;replace H : (op_row_sum_Out.l0 k1 (wrap64 (x5_1 + t103)) l0 (l0.length : Int) (wrap64 (x10_1 + 1))) = some r := H
      have A5 := Am A50;clear A50;have H' := Am H
      clear H;have p101 : 0 ≤ (x10_1 : Int) := of_decide_eq_true (by assumption)
      have q101 : x10_1 < (l0.length : Int) := of_decide_eq_true (by assumption)
      obtain ⟨ad101, e101, hx101_0, hx101_1, hx101_2⟩ := at_T55 HR0.out x10_1 p101 q101
      cases e101
      replace hx101_0 := (HB.out.cell (World.block_lt_of_cell? w _ hx101_0)).trans hx101_0
      replace hx101_1 := (HB.out.cell (World.block_lt_of_cell? w _ hx101_1)).trans hx101_1
      replace hx101_2 := (HB.out.cell (World.block_lt_of_cell? w _ hx101_2)).trans hx101_2
      replace p101 := eq_true p101;replace q101 := eq_true q101;go_wp2_with (first | ((with_reducible refine gate_dst (N := 7) rfl ?_); refine box_event ?hg (N := 7) ?hd (cs := #[.int .i64 0, .int .i64 0, .string (⟨#[]⟩ : ByteArray)]) (t := 55) ?hr ?_; (case hd => rfl); (case hg => rfl); (case hr => first | (go_simp; done) | (go_simp; rfl)); intro gb102 hg w6 hbox hb; have BK102 := Am (hbox);have GW102 := Am (zO (w := w) HB hg);have GE102 := Am (zO (w := w) HB hg);replace HB := Am (below_step (zB HB) hb); clear hb hbox hg; obtain ⟨hcz7_0, hcz7_1, hcz7_2, hfz7_0, hfz7_1, hfz7_2⟩ := zc3 BK102) | ((with_reducible refine gate_value (x := .tmp 15) rfl ?_); refine goesV_ (some 17) rfl rfl Tryd.func38 (by kernel_rfl) rfl #[.agg #[.int .i64 ((rd_T55 l0 x10_1).f0), .int .i64 ((rd_T55 l0 x10_1).f1), .string ((rd_T55 l0 x10_1).f2)]] rfl rfl zE ?_; (with_reducible refine (span_Out.calls ((rd_T55 l0 x10_1).f0) ((rd_T55 l0 x10_1).f1) ((rd_T55 l0 x10_1).f2) t103 _ ?side1 A5.out).mono ?_); (case side1 => exact zg HG HB); rintro e w8 ⟨rfl, hb⟩; refine ⟨_, rfl, ?_⟩; replace BK102 := Am (blk_below (g := gb102) (o := .cells #[.int .i64 ((rd_T55 l0 x10_1).f0), .int .i64 ((rd_T55 l0 x10_1).f1), .string ((rd_T55 l0 x10_1).f2)] 55 (0, 0)) (zP BK102) hb);replace HB := Am (below_step (zB HB) hb); (try clear hb)))
      go_roundg k1
      case measure => have := HK1.out; omega
      case rel => exact ⟨(wrap64 (x5_1 + t103)), (wrap64 (x10_1 + 1)), zG, zG, H', ⟨by have := HK1.out; omega⟩, ⟨(zB HB)⟩⟩
     ·rw [if_neg c4] at H;exact absurd H (by simp)
    ·rw [if_neg c3] at H;exact absurd H (by simp)
   ·rw [if_neg c2] at H;have c2b0 : decide (x10_1 < (l0.length : Int)) = false := decide_eq_false c2
    clear c2;obtain rfl := Option.some.inj H;go_wp2
    go_ret
    exact ⟨zF, (zB HB)⟩
end Go.Proofs.YtekjfodfedpioaaDoor.F
end
section
namespace Go.Proofs.YtekjfodfedpioaaDoor.F
open Go.RowKit Go.Proofs.YtekjfodfedpioaaDoorW.PrintWords Go.Proofs.YtekjfodfedpioaaDoorW.PrintLast Go.Proofs.YtekjfodfedpioaaDoorW.PrintMore
attribute [local go_sem] max2_int min2_int max_two min_two max_three min_three max_four min_four cell_setCell_isSome
set_option linter.unusedVariables false
set_option linter.unusedSimpArgs false
open Kd
def op_Out.f (k : Nat) (l0 : List (S55)) : Option (Int) := (op_row_sum_Out.f k l0).bind fun t101 => (some t101)
theorem op_Out.mono : ∀ a0 k, LeO (op_Out.f k a0) (op_Out.f (k + 1) a0) := by
  intro a0 k
  unfold op_Out.f
  repeat' first
      | (with_reducible exact op_row_sum_Out.mono _ _)
      | (with_reducible exact LeO.refl _)
      | (with_reducible exact LeO.none _)
      | (with_reducible refine LeO.ite ?_ ?_)
      | (with_reducible refine LeO.bind ?_ (fun _ => ?_))
      | exact op_row_sum_Out.mono _ _
      | exact LeO.none _
      | refine LeO.ite ?_ ?_
      | refine LeO.bind ?_ (fun _ => ?_)
set_option maxHeartbeats 40000000 in
set_option maxRecDepth 100000 in
theorem op_Out.calls (k : Nat) (A0 : Option Addr) (c0 : Nat) (l0 : List (S55)) (r : Int) (w : World) (hG : Glob w) (hr0 : Kd.C k55 w A0 l0.length l0) (hc0 : l0.length ≤ c0) (h : op_Out.f k l0 = some r) :
  Calls Tryd.prog 11 #[.slice A0 l0.length c0] w fun e w' => e = .returned (.int .i64 r) ∧ Below w.heap.size w w' := by
 have HG := Am hG;clear hG;have HR0 := Am hr0;have HC0 := Am hc0;clear hr0 hc0;have HB := Am (Below.refl w.heap.size w)
 have H : ((op_row_sum_Out.f k l0).bind fun t101 => (some t101)) = some r := h
 clear h;replace H := Option.bind_eq_some_iff.mp H;obtain ⟨t101, A20, H⟩ := H;replace H : (some t101) = some r := H
 have A2 := Am A20;clear A20;obtain rfl := Option.some.inj H;go_enter Tryd.func11, Tryd.ntmps11
 go_wp2_with (first | ((with_reducible refine gate_callee (f := 37) rfl ?_); refine goesL_ (some 4) rfl rfl Tryd.func37 (by kernel_rfl) rfl #[.slice A0 l0.length c0, .func (.func 38) #[] #[]] rfl zE ?_; (with_reducible refine (op_row_sum_Out.calls k _ _ l0 t101 _ ?side1 ?side2 ?side3 A2.out).mono ?_); (case side1 => exact zg HG HB); (case side2 => exact zI HR0.out); (case side3 => exact HC0.out); rintro e w3 ⟨rfl, hb⟩; refine ⟨_, rfl, ?_⟩; replace HB := Am (below_step (zB HB) hb); (try clear hb)))
 go_ret
 exact ⟨zF, (zB HB)⟩
end Go.Proofs.YtekjfodfedpioaaDoor.F
end
section
namespace Go.Proofs.YtekjfodfedpioaaDoor.F
open Go.RowKit Go.Proofs.YtekjfodfedpioaaDoorW.PrintWords Go.Proofs.YtekjfodfedpioaaDoorW.PrintLast Go.Proofs.YtekjfodfedpioaaDoorW.PrintMore
set_option linter.unusedVariables false
set_option linter.unusedSimpArgs false
section
variable {P : Program} {ops : Array Oper} {rest : List Oper} {o : Oper} {a : Act} {Q : Exit → Act → World → Prop} {W : World}
def ConvCalls (P : Program) (src dst : TypeId) (v : Value) (w : World) (post : Ending → World → Prop) : Prop := ∃ u w', (convert src dst v).run P w = .ok u w' ∧ post (.returned u) w'
theorem ConvCalls.mono {src dst : TypeId} {v : Value} {w : World} {p q : Ending → World → Prop} (h : ConvCalls P src dst v w p) (hpq : ∀ e w', p e w' → q e w') : ConvCalls P src dst v w q := by
  obtain ⟨u, w', h1, h2⟩ := h
  exact ⟨u, w', h1, hpq _ _ h2⟩
theorem gate_convert {s t : TypeId} {x : Operand} (_ho : o.op = .convert s t x) (h : wpList P ops Q (o :: rest) a W) : wpList P ops Q (o :: rest) a W := h
theorem goesC_ {oi : Oper} {w : World} (N : Option Tmp) (hd : oi.dst = N) (hg : oi.guard = none) {src dst : TypeId} {x : Operand} (v : Value) (hop : oi.op = .convert src dst x) (hx : a.eval x = v)
    (h : ConvCalls P src dst v w fun e w' => ∃ u, e = .returned u ∧ wpList P ops Q rest (a.put N u) w') : wpList P ops Q (oi :: rest) a w := by
  obtain ⟨u, w', hr, u', he, hk⟩ := h
  injection he with he
  subst he
  refine wpList_plain hg fun K hK => ?_
  unfold Oper.wp execOp
  simp only [hop, hx, Sem.run_bind, Sem.run_pure, hr, Result.andThen_ok]
  subst hd
  exact hK _ _ hk
end
def runesL (s : ByteArray) : Nat → Nat → List Int
  | 0, _ => []
  | b + 1, i => if i < s.size then ((Utf8.decode s i).1 : Int) :: runesL s b (i + (Utf8.decode s i).2) else []
theorem runesFrom_is (s : ByteArray) : ∀ (b i : Nat) (acc : Array Value), (Conv.runesFrom s b i acc).toList = acc.toList ++ (runesL s b i).map (Value.int .i32)
  | 0, i, acc => by simp [Conv.runesFrom, runesL]
  | b + 1, i, acc => by
    unfold Conv.runesFrom runesL
    by_cases h : i < s.size
    · rw [if_pos h, if_pos h]
      simp only
      rw [runesFrom_is s b]
      simp
    · rw [if_neg h, if_neg h]
      simp
theorem runesL_length (s : ByteArray) : ∀ (b i : Nat), (runesL s b i).length ≤ b
  | 0, i => Nat.le_refl _
  | b + 1, i => by
    unfold runesL
    split
    · simp
      exact runesL_length s b _
    · simp
def str_runes.f (a0 : ByteArray) : Option (List Int) := if a0.size ≤ 17592186044416 then some (runesL a0 a0.size 0) else none
theorem str_runes.calls (a0 : ByteArray) (r : List Int) (w : World) (h : str_runes.f a0 = some r) :
  ConvCalls Tryd.prog 9 83 (.string a0) w fun e w' => ∃ v0_ : Value, e = .returned (v0_) ∧ Kd.R (Kd.int .i32) 21 w' w.heap.size (fun _ => True) v0_ r ∧ Below w.heap.size w w' := by
 unfold str_runes.f at h
 split at h
 ·next hs =>
  obtain rfl := Option.some.inj h
  have hl := runesL_length a0 a0.size 0
  have hz : (Conv.runesFrom a0 a0.size 0 #[]).toList = (runesL a0 a0.size 0).map (Value.int .i32) := by rw [runesFrom_is]; simp
  have hsz : (Conv.runesFrom a0 a0.size 0 #[]).size = (runesL a0 a0.size 0).length := by rw [← Array.length_toList, hz, List.length_map]
  have hrun := run_runes_of_string (P := Tryd.prog) w 9 83 21 a0 Tryd.underlying9 Tryd.underlying83 Tryd.underlying21 (by omega)
  refine ⟨_, _, hrun, _, rfl, ?_, ?_⟩
  ·refine Kd.R_of_own (enc := Value.int .i32) (h1 := fun _ => rfl) ?_ (fun _ _ => trivial)
   have hge := grownCap_ge w (Conv.runesFrom a0 a0.size 0 #[]).size 0 21
   have hle := grownCap_le_maxLen w (Conv.runesFrom a0 a0.size 0 #[]).size 0 21 (by unfold maxLen; omega)
   generalize grownCap w (Conv.runesFrom a0 a0.size 0 #[]).size 0 21 = cap at *
   generalize Conv.runesFrom a0 a0.size 0 #[] = C at *
   have h1 : (C ++ Array.replicate (cap - C.size) (Value.int .i32 0)).size = cap * 1 := by
    rw [Array.size_append, Array.size_replicate]
    omega
   have h2 : (C ++ Array.replicate (cap - C.size) (Value.int .i32 0)).toList.take ((runesL a0 a0.size 0).length * 1) = encs (Value.int .i32) (runesL a0 a0.size 0) := by
    rw [Array.toList_append, hz, Nat.mul_one, List.take_left' (by simp)]
    rfl
   exact ⟨by simp [encs], .inr ⟨w.heap.size, cap, _, by rw [hsz], Nat.le_refl _, heap_alloc_new w.drew _, by omega, hle, h1, h2⟩⟩
  ·exact below_alloc (below_drew1 (Below.refl _ _)) _
 ·cases h
end Go.Proofs.YtekjfodfedpioaaDoor.F
end
section
namespace Go.Proofs.YtekjfodfedpioaaDoor.F
open Go.RowKit Go.Proofs.YtekjfodfedpioaaDoorW.PrintWords Go.Proofs.YtekjfodfedpioaaDoorW.PrintLast Go.Proofs.YtekjfodfedpioaaDoorW.PrintMore
set_option linter.unusedVariables false
set_option linter.unusedSimpArgs false
def kindR : List S55 → Int
  | [] => 0
  | s :: _ => s.f0
def loadR : List S55 → Option (List Int)
  | [] => some []
  | s :: _ => str_runes.f s.f2
def sizeR : List S55 → List Int → Int
  | [], _ => 0
  | s :: _, t => wrap64 (s.f1 + (t.length : Int))
def RowAt (W : World) (A : Option Addr) (gl : Nat) (l : List S55) : Prop :=
  0 < l.length → ∃ (off : Nat) (cur : Array Value), A = some ⟨gl, off, none⟩ ∧ W.heap[gl]? = some (.cells cur 55 (0, 0)) ∧
    ∀ (j : Nat) (s : S55), l[j]? = some s → cur[off + 3 * j]? = some (.int .i64 s.f0) ∧ cur[off + 3 * j + 1]? = some (.int .i64 s.f1) ∧ cur[off + 3 * j + 2]? = some (.string s.f2)
def TxtAt (W : World) (B : Option Addr) (gt : Nat) (t : List Int) : Prop :=
  0 < t.length → ∃ (off : Nat) (cur : Array Value), B = some ⟨gt, off, none⟩ ∧ W.heap[gt]? = some (.cells cur 21 (0, 0)) ∧ ∀ (j : Nat) (r : Int), t[j]? = some r → cur[off + j]? = some (.int .i32 r)
structure Rd (W : World) (n₀ g gl gt : Nat) (A : Option Addr) (c : Nat) (B : Option Addr) (cB : Nat) (l : List S55) (t : List Int) : Prop where
  blk : W.heap[g]? = some (.cells #[.slice A l.length c, .slice B t.length cB] 91 (0, 0))
  lc : l.length ≤ c
  tc : t.length ≤ cB
  lm : c ≤ 9223372036854775807
  tm : cB ≤ 9223372036854775807
  row : RowAt W A gl l
  txt : TxtAt W B gt t
  hg : n₀ ≤ g
  hl : 0 < l.length → n₀ ≤ gl
theorem Rd.keep {W W' : World} {n₀ g gl gt c cB : Nat} {A B : Option Addr} {l : List S55} {t : List Int} (h : Rd W n₀ g gl gt A c B cB l t) (h0 : W'.heap[g]? = W.heap[g]?) (h1 : 0 < l.length → W'.heap[gl]? = W.heap[gl]?) (h2 : 0 < t.length → W'.heap[gt]? = W.heap[gt]?) : Rd W' n₀ g gl gt A c B cB l t :=
  ⟨h0.trans h.blk, h.lc, h.tc, h.lm, h.tm, fun hp => by obtain ⟨o, cur, e1, e2, e3⟩ := h.row hp; exact ⟨o, cur, e1, (h1 hp).trans e2, e3⟩, fun hp => by obtain ⟨o, cur, e1, e2, e3⟩ := h.txt hp; exact ⟨o, cur, e1, (h2 hp).trans e2, e3⟩, h.hg, h.hl⟩
theorem Rd.lt {W : World} {n₀ g gl gt c cB : Nat} {A B : Option Addr} {l : List S55} {t : List Int} (h : Rd W n₀ g gl gt A c B cB l t) : g < W.heap.size ∧ (0 < l.length → gl < W.heap.size) ∧ (0 < t.length → gt < W.heap.size) :=
  ⟨blk_lt h.blk, fun hp => by obtain ⟨_, _, _, e, _⟩ := h.row hp; exact blk_lt e, fun hp => by obtain ⟨_, _, _, e, _⟩ := h.txt hp; exact blk_lt e⟩
theorem Rd.below {W W' : World} {n₀ g gl gt c cB : Nat} {A B : Option Addr} {l : List S55} {t : List Int} (h : Rd W n₀ g gl gt A c B cB l t) (hb : Below W.heap.size W W') : Rd W' n₀ g gl gt A c B cB l t :=
  h.keep (hb.block _ h.lt.1) (fun hp => hb.block _ (h.lt.2.1 hp)) (fun hp => hb.block _ (h.lt.2.2 hp))
theorem Rd.head {W : World} {n₀ g gl gt c cB : Nat} {A B : Option Addr} {s : S55} {r : List S55} {t : List Int} (h : Rd W n₀ g gl gt A c B cB (s :: r) t) :
    ∃ off : Nat, A = some ⟨gl, off, none⟩ ∧ W.cell? ⟨gl, off, none⟩ = some (.int .i64 s.f0) ∧ W.cell? ⟨gl, off + 1, none⟩ = some (.int .i64 s.f1) ∧ W.cell? ⟨gl, off + 2, none⟩ = some (.string s.f2) ∧ W.frozen? ⟨gl, off + 1, none⟩ = false := by
  obtain ⟨off, cur, e1, e2, e3⟩ := h.row (by simp)
  obtain ⟨h0, h1, h2⟩ := e3 0 s rfl
  refine ⟨off, e1, ?_, ?_, ?_, blk_frozen e2 _⟩
  · rw [blk_cell e2 off]; exact h0
  · rw [blk_cell e2 (off + 1)]; exact h1
  · rw [blk_cell e2 (off + 2)]; exact h2
set_option maxRecDepth 100000 in
set_option maxHeartbeats 2000000 in
theorem reader_kind.calls (n₀ g gl gt c cB : Nat) (A B : Option Addr) (l : List S55) (t : List Int) (w : World) (h : Rd w n₀ g gl gt A c B cB l t) :
  Calls Tryd.prog 41 #[.pointer (some ⟨g, 0, none⟩)] w fun e w' => e = .returned (.int .i64 (kindR l)) ∧ w = w' := by
 have c0 := (blk_cell h.blk 0).trans (show _ = some (Value.slice A l.length c) from rfl)
 have HM : Aside0 (c ≤ 9223372036854775807) := ⟨h.lm⟩
 have HC : Aside0 (l.length ≤ c) := ⟨h.lc⟩
 cases l with
 | nil =>
  clear h;go_enter Tryd.func41, Tryd.ntmps41
  go_wp2
  go_ret
  exact ⟨rfl, rfl⟩
 | cons s r =>
  obtain ⟨off, rfl, h0, h1, h2, hf⟩ := h.head
  simp only [List.length_cons] at c0
  obtain ⟨n, hn⟩ : ∃ n, r.length = n := ⟨_, rfl⟩
  rw [hn] at c0
  have d0 : (((n + 1 : Nat) : Int) == 0) = false := by simp; omega
  clear h hn HM HC;go_enter Tryd.func41, Tryd.ntmps41
  go_wp2
  go_ret
  exact ⟨rfl, rfl⟩
set_option maxRecDepth 100000 in
set_option maxHeartbeats 2000000 in
theorem reader_size.calls (n₀ g gl gt c cB : Nat) (A B : Option Addr) (l : List S55) (t : List Int) (w : World) (h : Rd w n₀ g gl gt A c B cB l t) (hp : 0 < l.length) :
  Calls Tryd.prog 43 #[.pointer (some ⟨g, 0, none⟩)] w fun e w' => e = .returned (.int .i64 (sizeR l t)) ∧ w' = w.drew := by
 have c0 := (blk_cell h.blk 0).trans (show _ = some (Value.slice A l.length c) from rfl)
 have c1 := (blk_cell h.blk 1).trans (show _ = some (Value.slice B t.length cB) from rfl)
 have HM : Aside0 (c ≤ 9223372036854775807) := ⟨h.lm⟩
 have HC : Aside0 (l.length ≤ c) := ⟨h.lc⟩
 cases l with
 | nil => simp at hp
 | cons s r =>
  obtain ⟨off, rfl, h0, h1, h2, hf⟩ := h.head
  simp only [List.length_cons] at c0
  obtain ⟨n, hn⟩ : ∃ n, r.length = n := ⟨_, rfl⟩
  rw [hn] at c0
  clear h hn hp HM HC;go_enter Tryd.func43, Tryd.ntmps43
  go_wp2
  go_region
  go_wp2
  go_ret
  exact ⟨rfl, rfl⟩
theorem txt_own {W : World} {base : Nat} {ok : Nat → Prop} {v : Value} {t : List Int} (h : Kd.R (Kd.int .i32) 21 W base ok v t) : ∃ (gt cB : Nat) (B : Option Addr), v = .slice B t.length cB ∧ t.length ≤ cB ∧ cB ≤ 9223372036854775807 ∧ TxtAt W B gt t ∧ (0 < t.length → base ≤ gt) := by
 have ho := Kd.own_of_R h
 rcases ho.2 with ⟨hv, h0⟩ | ⟨g, cap, cur, hv, hb, hh, hnc, hcm, hcs, htake⟩
 ·have ht : t.length = 0 := h0
  exact ⟨0, 0, none, by rw [hv, ht], by omega, by omega, fun hp => by omega, fun hp => by omega⟩
 ·refine ⟨g, cap, _, hv, hnc, hcm, fun _ => ⟨0, cur, rfl, hh, fun j r hr => ?_⟩, fun _ => hb⟩
  have := congrArg (·[j]?) htake
  simp only [List.getElem?_take, encs, List.getElem?_map, hr, Option.map_some, Array.getElem?_toList] at this
  have hj := (List.getElem?_eq_some_iff.1 hr).1
  rw [if_pos (by omega)] at this
  rw [Nat.zero_add]
  exact this
set_option maxRecDepth 100000 in
set_option maxHeartbeats 2000000 in
theorem reader_load.calls (n₀ g gl c : Nat) (A : Option Addr) (V : Value) (l : List S55) (t2 : List Int) (w0 w : World) (hn : n₀ = w0.heap.size) (hB : Below n₀ w0 w)
  (hblk : w.heap[g]? = some (.cells #[.slice A l.length c, V] 91 (0, 0))) (lc : l.length ≤ c) (lm : c ≤ 9223372036854775807) (row : RowAt w A gl l) (hg : n₀ ≤ g) (hl : 0 < l.length → n₀ ≤ gl) (hL : loadR l = some t2) :
  Calls Tryd.prog 68 #[.pointer (some ⟨g, 0, none⟩)] w fun e w' => e = .returned (.tuple #[]) ∧ ∃ (gt cB : Nat) (B : Option Addr), Rd w' n₀ g gl gt A c B cB l t2 ∧ Below n₀ w0 w' ∧ (∀ k, k < w.heap.size → k ≠ g → w'.heap[k]? = w.heap[k]?) ∧ (0 < t2.length → w.heap.size ≤ gt) := by
 subst hn
 have BK := Aside0.mk hblk;have c0 := (blk_cell hblk 0).trans (show _ = some (Value.slice A l.length c) from rfl)
 have c1 := (blk_cell hblk 1).trans (show _ = some V from rfl)
 have f1 := blk_frozen hblk 1
 have bk1 : (w.setCell ⟨g, 1, none⟩ (.slice none 0 0)).heap[g]? = some (.cells #[.slice A l.length c, .slice none 0 0] 91 (0, 0)) := blk_put hblk 1 _ rfl
 have c2 := (blk_cell bk1 0).trans (show _ = some (Value.slice A l.length c) from rfl)
 have BK1 := Aside0.mk bk1;have HB1 := Aside0.mk (hB.setCell (p := ⟨g, 1, none⟩) hg (.slice none 0 0))
 have HG := Aside0.mk hg;have HH := Aside0.mk hl;have LC := Aside0.mk lc;have LM := Aside0.mk lm;cases l with
 | nil =>
  obtain rfl : [] = t2 := by simpa [loadR] using hL
  simp only [List.length_nil] at c0 c2 BK1
  clear hblk bk1 hB hg hl lc lm row hL BK;go_enter Tryd.func68, Tryd.ntmps68
  go_wp2
  go_end0
  exact ⟨rfl, 0, 0, none, ⟨BK1.out, Nat.zero_le _, Nat.le_refl _, LM.out, by omega, fun h => by simp at h, fun h => by simp at h, HG.out, HH.out⟩, HB1.out, fun k hk hkg => Below.heap_setCell w ⟨g, 1, none⟩ _ k hkg, fun h => by simp at h⟩
 | cons s r =>
  have rowA := Aside0.mk row;have row1 : RowAt (w.setCell ⟨g, 1, none⟩ (.slice none 0 0)) A gl (s :: r) := fun hp => by
   obtain ⟨o, cur, e1, e2, e3⟩ := row hp
   exact ⟨o, cur, e1, (Below.heap_setCell w ⟨g, 1, none⟩ _ gl (blk_ne e2 hblk (by decide))).trans e2, e3⟩
  have RR : Aside0 (RowAt (w.setCell ⟨g, 1, none⟩ (.slice none 0 0)) A gl (s :: r)) := ⟨row1⟩
  obtain ⟨off, cur, rfl, e2, e3⟩ := row1 (by simp)
  have h2 := (blk_cell e2 (off + 2)).trans (e3 0 s rfl).2.2
  have HL : Aside0 (str_runes.f s.f2 = some t2) := ⟨hL⟩
  have c3 := (blk_cell bk1 1).trans (show _ = some (Value.slice none 0 0) from rfl)
  simp only [List.length_cons] at c0 c2
  obtain ⟨n, hn⟩ : ∃ n, r.length = n := ⟨_, rfl⟩
  have HNN := Aside0.mk hn;rw [hn] at c0 c2
  have d0 : decide ((0 : Int) < ((n + 1 : Nat) : Int)) = true := decide_eq_true (by omega)
  clear hblk bk1 hB hg hl lc lm row hL BK hn e2 e3;go_enter Tryd.func68, Tryd.ntmps68
  go_wp2_with ((with_reducible refine gate_convert (s := 9) (t := 83) rfl ?_); refine goesC_ (some 19) rfl rfl (.string s.f2) rfl rfl ?_; (with_reducible refine (str_runes.calls s.f2 t2 _ HL.out).mono ?_); rintro e w2 ⟨v, rfl, ho, hb⟩; refine ⟨_, rfl, ?_⟩; obtain ⟨gt, cB, B, rfl, tc, tm, htx, hgt⟩ := txt_own ho; have HT := Aside0.mk htx; have HGT := Aside0.mk hgt; have TC := Aside0.mk tc; have TM := Aside0.mk tm; have HB2 := Aside0.mk hb; have c4 := (blk_cell (blk_below BK1.out hb) 1).trans (show _ = some (Value.slice none 0 0) from rfl); have f4 := blk_frozen (blk_below BK1.out hb) 1; clear ho hb htx hgt tc tm)
  go_end0
  have hgr : g < w.heap.size := by have := blk_lt BK1.out; simpa [World.setCell] using this
  have hsz : (w.setCell ⟨g, 1, none⟩ (.slice none 0 0)).heap.size = w.heap.size := by simp [World.setCell]
  refine ⟨rfl, gt, cB, B, ⟨blk_put (blk_below BK1.out HB2.out) 1 _ rfl, LC.out, TC.out, LM.out, TM.out, fun hp => ?_, fun hp => ?_, HG.out, HH.out⟩, (below_step HB1.out HB2.out).setCell (p := ⟨g, 1, none⟩) HG.out _, fun k hk hkg => ?_, fun hp => by have := HGT.out hp; omega⟩
  ·obtain ⟨o, cur, e1, e2, e3⟩ := RR.out hp
   exact ⟨o, cur, e1, (Below.heap_setCell w2 ⟨g, 1, none⟩ _ gl (blk_ne e2 BK1.out (by decide))).trans (blk_below e2 HB2.out), e3⟩
  ·obtain ⟨o, cur, e1, e2, e3⟩ := HT.out hp
   exact ⟨o, cur, e1, (Below.heap_setCell w2 ⟨g, 1, none⟩ _ gt (by have := HGT.out hp; show gt ≠ g; omega)).trans e2, e3⟩
  ·exact (Below.heap_setCell w2 ⟨g, 1, none⟩ _ k hkg).trans ((HB2.out.block k (by omega)).trans (Below.heap_setCell w ⟨g, 1, none⟩ _ k hkg))
def takeR : List S55 → List Int → Int → Option (S55 × List S55 × List Int)
 | [], _, _ => none
 | s :: r, t, n =>
  if s.f0 = 2 then
   (if 0 ≤ n ∧ n ≤ (t.length : Int) then
    (if sizeR (s :: r) (t.drop n.toNat) = 0 then (loadR r).bind fun t2 => some (⟨2, 0, runesBytes (t.take n.toNat)⟩, r, t2) else some (⟨2, 0, runesBytes (t.take n.toNat)⟩, s :: r, t.drop n.toNat))
   else none)
  else (if sizeR (⟨s.f0, wrap64 (s.f1 - n), s.f2⟩ :: r) t = 0 then (loadR r).bind fun t2 => some (⟨s.f0, n, ⟨#[]⟩⟩, r, t2) else some (⟨s.f0, n, ⟨#[]⟩⟩, ⟨s.f0, wrap64 (s.f1 - n), s.f2⟩ :: r, t))
structure TakeP (w0 w : World) (n₀ g gl gt : Nat) (l' : List S55) (t' : List Int) (w' : World) : Prop where
 b : Below n₀ w0 w'
 z : w.heap.size ≤ w'.heap.size
 o : ∀ k, k < w.heap.size → k ≠ g → k ≠ gl → w'.heap[k]? = w.heap[k]?
 r : ∃ (gt' c cB : Nat) (A B : Option Addr), Rd w' n₀ g gl gt' A c B cB l' t' ∧ (0 < t'.length → gt' = gt ∨ w.heap.size ≤ gt')
theorem row_set1 {W : World} {gl off : Nat} {cur : Array Value} {s : S55} {r : List S55} (z : Int) (hb : W.heap[gl]? = some (.cells cur 55 (0, 0)))
  (h : ∀ (j : Nat) (x : S55), (s :: r)[j]? = some x → cur[off + 3 * j]? = some (.int .i64 x.f0) ∧ cur[off + 3 * j + 1]? = some (.int .i64 x.f1) ∧ cur[off + 3 * j + 2]? = some (.string x.f2)) :
  ∃ cur', (W.setCell ⟨gl, off + 1, none⟩ (.int .i64 z)).heap[gl]? = some (.cells cur' 55 (0, 0)) ∧
   ∀ (j : Nat) (x : S55), ((⟨s.f0, z, s.f2⟩ : S55) :: r)[j]? = some x → cur'[off + 3 * j]? = some (.int .i64 x.f0) ∧ cur'[off + 3 * j + 1]? = some (.int .i64 x.f1) ∧ cur'[off + 3 * j + 2]? = some (.string x.f2) := by
 refine ⟨cur.setIfInBounds (off + 1) (.int .i64 z), blk_put hb (off + 1) _ rfl, fun j x hx => ?_⟩
 have hlt : off + 1 < cur.size := by
  obtain ⟨_, h1, _⟩ := h 0 s rfl
  exact (Array.getElem?_eq_some_iff.1 h1).1
 cases j with
 | zero =>
  obtain rfl : (⟨s.f0, z, s.f2⟩ : S55) = x := by simpa using hx
  obtain ⟨h0, h1, h2⟩ := h 0 s rfl
  refine ⟨?_, ?_, ?_⟩
  ·rw [Array.getElem?_setIfInBounds_ne (by omega)]; exact h0
  ·simp [hlt]
  ·rw [Array.getElem?_setIfInBounds_ne (by omega)]; exact h2
 | succ j =>
  obtain ⟨h0, h1, h2⟩ := h (j + 1) x (by simpa using hx)
  rw [Array.getElem?_setIfInBounds_ne (by omega), Array.getElem?_setIfInBounds_ne (by omega), Array.getElem?_setIfInBounds_ne (by omega)]
  exact ⟨h0, h1, h2⟩
theorem row_tail {W : World} {A : Option Addr} {gl c : Nat} {s : S55} {r : List S55} (h : RowAt W A gl (s :: r)) (hc : (s :: r).length ≤ c) : RowAt W (if c = 1 then A else A.map (·.add (1 * 3))) gl r := by
 intro hp;obtain ⟨off, cur, e1, e2, e3⟩ := h (by simp)
 subst e1
 have hc1 : c ≠ 1 := by simp at hc; omega
 refine ⟨off + 3, cur, ?_, e2, fun j x hx => ?_⟩
 ·rw [if_neg hc1]
  simp [Addr.add]
 ·have := e3 (j + 1) x (by simpa using hx)
  rw [show off + 3 * (j + 1) = off + 3 + 3 * j by omega] at this
  exact this
theorem txt_drop {W : World} {B : Option Addr} {gt cB m : Nat} {t : List Int} (h : TxtAt W B gt t) (hc : t.length ≤ cB) (hm : m ≤ t.length) : TxtAt W (if cB = m then B else B.map (·.add (m * 1))) gt (t.drop m) := by
 intro hp;rw [List.length_drop] at hp
 obtain ⟨off, cur, e1, e2, e3⟩ := h (by omega)
 subst e1
 refine ⟨off + m, cur, ?_, e2, fun j r hr => ?_⟩
 ·rw [if_neg (by omega)]
  simp [Addr.add]
 ·rw [List.getElem?_drop] at hr
  have := e3 (m + j) r hr
  rw [show off + m + j = off + (m + j) by omega]
  exact this
theorem txt_reads {W : World} {B : Option Addr} {gt cB m : Nat} {t : List Int} (h : TxtAt W B gt t) (hc : t.length ≤ cB) (hB : cB ≤ 9223372036854775807) (hm : m ≤ t.length) : Kd.C (Kd.int .i32) W B (t.take m).length (t.take m) := by
 have hl : (t.take m).length = m := by rw [List.length_take]; omega
 refine Kd.C_of_reads (enc := Value.int .i32) (d := (0 : Int)) (h1 := fun _ => rfl) ⟨rfl, by omega, fun hp => ?_⟩
 obtain ⟨off, cur, e1, e2, e3⟩ := h (by omega)
 refine ⟨_, e1, fun j hj => ?_⟩
 have hj2 : j < t.length := by omega
 have := e3 j t[j] (List.getElem?_eq_getElem hj2)
 rw [show (⟨gt, off, none⟩ : Addr).add j = ⟨gt, off + j, none⟩ by simp [Addr.add], blk_cell e2, this, List.getD_eq_getElem?_getD, List.getElem?_take, if_pos (by omega), List.getElem?_eq_getElem hj2]
 rfl
theorem conv_take {W : World} {B : Option Addr} {gt cB m : Nat} {t : List Int} (h : TxtAt W B gt t) (hc : t.length ≤ cB) (hB : cB ≤ 9223372036854775807) (hm : m ≤ t.length) :
  (convert 83 9 (.slice B m cB)).run Tryd.prog W = .ok (.string (runesBytes (t.take m))) W := by
 have hl : (t.take m).length = m := by rw [List.length_take]; omega
 have hr := txt_reads h hc hB hm
 cases B with
 | none =>
  have h0 : m = 0 := by
   rcases Nat.eq_zero_or_pos m with h1 | h1
   ·exact h1
   ·obtain ⟨_, _, e, _⟩ := h (by omega); cases e
  subst h0
  rw [show t.take 0 = [] from rfl]
  exact run_convert_runes_nil (P := Tryd.prog) W 83 9 21 _ _ Tryd.underlying83 Tryd.underlying21 Tryd.underlying9
 | some ad =>
  have hcc : ∀ j, j < (t.take m).length → W.cell? (ad.add j) = some (.int .i32 ((t.take m).getD j 0)) := by
   intro j hj;obtain ⟨ad', e, hx⟩ := Kd.at_int hr (j : Int) (by omega) (by omega)
   cases e
   simpa [rd] using hx
  have hrun := run_convert_runes (P := Tryd.prog) W 83 9 21 ad (t.take m).length cB (t.take m) (Nat.le_refl _) Tryd.underlying83 Tryd.underlying21 Tryd.underlying9 hcc
  rw [List.take_length] at hrun
  rw [hl] at hrun
  exact hrun
end Go.Proofs.YtekjfodfedpioaaDoor.F
end
section
namespace Go.Proofs.YtekjfodfedpioaaDoor.F
open Go.RowKit Go.Proofs.YtekjfodfedpioaaDoorW.PrintWords Go.Proofs.YtekjfodfedpioaaDoorW.PrintLast Go.Proofs.YtekjfodfedpioaaDoorW.PrintMore
set_option linter.unusedVariables false
set_option linter.unusedSimpArgs false
def newR (k : Nat) (l : List S55) : Option (List S55 × List Int) := (normal_Of.f k l).bind fun x => (loadR x).bind fun t => some (x, t)
theorem newR.mono (l : List S55) (k : Nat) : LeO (newR k l) (newR (k + 1) l) := by
  unfold newR
  exact LeO.bind (normal_Of.mono _ _) (fun _ => LeO.refl _)
theorem row_own {W : World} {base : Nat} {ok : Nat → Prop} {v : Value} {l : List S55} (h : Kd.R k55 55 W base ok v l) : ∃ (gl c : Nat) (A : Option Addr), v = .slice A l.length c ∧ l.length ≤ c ∧ c ≤ 9223372036854775807 ∧ RowAt W A gl l ∧ (0 < l.length → base ≤ gl) := by
  obtain ⟨hok, inner, ho, hr⟩ := h
  rcases ho.2 with ⟨hv, h0⟩ | ⟨g, cap, cur, hv, hb, hh, hnc, hcm, hcs, htake⟩
  · have ht : l.length = 0 := h0
    exact ⟨0, 0, none, by rw [hv, ht], by omega, by omega, fun hp => by omega, fun hp => by omega⟩
  · refine ⟨g, cap, _, hv, hnc, hcm, fun _ => ⟨0, cur, rfl, hh, fun j s hs => ?_⟩, fun _ => hb⟩
    have hj := (List.getElem?_eq_some_iff.1 hs).1
    have hM : (inner.drop (j * 3)).take 3 = [Value.int .i64 s.f0, .int .i64 s.f1, .string s.f2] := k55_openM (hr.2 j s hs)
    have cell : ∀ q, q < 3 → cur[0 + 3 * j + q]? = ([Value.int .i64 s.f0, .int .i64 s.f1, .string s.f2] : List Value)[q]? := by
      intro q hq
      have e := congrArg (·[q]?) hM
      simp only [List.getElem?_take, List.getElem?_drop] at e
      rw [if_pos hq] at e
      rw [← e, ← htake, List.getElem?_take, if_pos (show j * 3 + q < l.length * k55.sz from by show j * 3 + q < l.length * 3; omega), Array.getElem?_toList]
      congr 1
      omega
    exact ⟨cell 0 (by omega), cell 1 (by omega), cell 2 (by omega)⟩
set_option maxRecDepth 100000 in
set_option maxHeartbeats 4000000 in
theorem newReader.calls (k : Nat) (A0 : Option Addr) (c0 : Nat) (l0 : List S55) (l : List S55) (t : List Int) (w0 w : World) (hB : Below w0.heap.size w0 w) (hr0 : Kd.C k55 w A0 l0.length l0) (hc0 : l0.length ≤ c0) (h : newR k l0 = some (l, t)) :
  Calls Tryd.prog 40 #[.slice A0 l0.length c0] w fun e w' => ∃ (g gl gt c cB : Nat) (A B : Option Addr), e = .returned (.pointer (some ⟨g, 0, none⟩)) ∧ Rd w' w0.heap.size g gl gt A c B cB l t ∧ Below w.heap.size w w' ∧ w.heap.size ≤ g ∧ (0 < l.length → w.heap.size ≤ gl) ∧ (0 < t.length → w.heap.size ≤ gt) := by
 obtain ⟨l', hl, h⟩ := Option.bind_eq_some_iff.1 h
 obtain ⟨t', ht, h⟩ := Option.bind_eq_some_iff.1 h
 obtain ⟨rfl, rfl⟩ : l' = l ∧ t' = t := by simpa using h
 have HL := Aside0.mk hl;have HT := Aside0.mk ht;have HB := Aside0.mk hB;have HR0 := Aside0.mk hr0;have HC0 := Aside0.mk hc0;clear h hl ht hB hr0 hc0;go_enter Tryd.func40, Tryd.ntmps40
 go_wp2_with (first | (go_at_call 44; (with_reducible refine (normal_Of.calls k _ _ l0 l' _ HR0.out HC0.out HL.out).mono ?_); rintro e w1 ⟨v, rfl, ho, hb⟩; obtain ⟨gl, c, A, rfl, lc, lm, hrow, hgl⟩ := row_own ho; have HW1 := Aside0.mk hb; have LC := Aside0.mk lc; have LM := Aside0.mk lm; have HROW := Aside0.mk hrow; have HGL := Aside0.mk hgl; clear ho hb lc lm hrow hgl) | (go_at_call 68; fail))
 have hs1 : (w1.alloc (.cells #[.slice A l'.length c, .slice none 0 0] 91)).heap.size = w1.heap.size + 1 := size_alloc _ _
 have hsz : w.heap.size ≤ w1.heap.size := HW1.out.size
 have hws : w0.heap.size ≤ w.heap.size := HB.out.size
 have HB2 := Aside0.mk (below_alloc (below_step HB.out HW1.out) (.cells #[.slice A l'.length c, .slice none 0 0] 91))
 have HB2w := Aside0.mk (below_alloc HW1.out (.cells #[.slice A l'.length c, .slice none 0 0] 91))
 have BK := Aside0.mk (blk_new w1 (.cells #[.slice A l'.length c, .slice none 0 0] 91))
 have ROW2 : Aside0 (RowAt (w1.alloc (.cells #[.slice A l'.length c, .slice none 0 0] 91)) A gl l') := ⟨fun hp => by
  obtain ⟨o, cur, e1, e2, e3⟩ := HROW.out hp
  exact ⟨o, cur, e1, blk_alloc e2 _, e3⟩⟩
 have HS1 := Aside0.mk hs1;clear hs1;go_wp2_with ((go_at_call 68; (with_reducible refine (reader_load.calls w0.heap.size w1.heap.size gl c A _ l' t' w0 _ rfl HB2.out BK.out LC.out LM.out ROW2.out (Nat.le_trans hws hsz) (fun hp => Nat.le_trans hws (HGL.out hp)) HT.out).mono ?_); rintro e W5 ⟨rfl, gt', cB5, B5', R5, hB5, hO5, hgt5⟩; have RR5 := Aside0.mk R5; have HB5 := Aside0.mk hB5; have HO5 := Aside0.mk hO5; have HG5 := Aside0.mk hgt5; clear R5 hB5 hO5 hgt5))
 go_ret
 refine ⟨_, gl, gt', c, cB5, A, B5', rfl, RR5.out, ?_, hsz, HGL.out, fun hp => by have := HG5.out hp; have := HS1.out; omega⟩
 exact ⟨HB5.out.os.trans HB.out.os.symm, HB5.out.tape.trans HB.out.tape.symm, HB5.out.output.trans HB.out.output.symm, by have := RR5.out.lt.1; omega, fun k hk => (HO5.out k (by have := HS1.out; omega) (by omega)).trans (HB2w.out.block k hk)⟩
theorem takeR_len {l l' : List S55} {t t' : List Int} {n : Int} {x : S55} (h : takeR l t n = some (x, l', t')) : l'.length ≤ l.length ∧ 0 < l.length := by
 cases l with
 | nil => cases h
 | cons s r =>
  refine ⟨?_, by simp⟩
  simp only [takeR] at h
  split at h
  ·split at h
   ·split at h
    ·obtain ⟨t2, _, e⟩ := Option.bind_eq_some_iff.1 h
     injection e with e
     injection e with _ e
     injection e with e _
     subst e
     simp
    ·injection h with e
     injection e with _ e
     injection e with e _
     subst e
     exact Nat.le_refl _
   ·cases h
  ·split at h
   ·obtain ⟨t2, _, e⟩ := Option.bind_eq_some_iff.1 h
    injection e with e
    injection e with _ e
    injection e with e _
    subst e
    simp
   ·injection h with e
    injection e with _ e
    injection e with e _
    subst e
    simp
structure CmS (w0 W : World) (gx glx gy gly : Nat) (lx : List S55) (tx : List Int) (ly : List S55) (ty : List Int) (out : List S55) (v : Value) : Prop where
 b : Below w0.heap.size w0 W
 x : ∃ (gt c cB : Nat) (A B : Option Addr), Rd W w0.heap.size gx glx gt A c B cB lx tx
 y : ∃ (gt c cB : Nat) (A B : Option Addr), Rd W w0.heap.size gy gly gt A c B cB ly ty
 n1 : gx ≠ gy
 n2 : 0 < lx.length → 0 < ly.length → glx ≠ gly
 o : Kd.R k55 55 W w0.heap.size (fun _ => True) v out
 nx : 0 < lx.length → some glx ≠ v.ownBlock
 ny : 0 < ly.length → some gly ≠ v.ownBlock
theorem CmS.swap {w0 W : World} {gx glx gy gly : Nat} {lx ly out : List S55} {tx ty : List Int} {v : Value} (h : CmS w0 W gx glx gy gly lx tx ly ty out v) : CmS w0 W gy gly gx glx ly ty lx tx out v :=
 ⟨h.b, h.y, h.x, h.n1.symm, fun a b e => h.n2 b a e.symm, h.o, h.ny, h.nx⟩
theorem CmS.below {w0 W W' : World} {gx glx gy gly : Nat} {lx ly out : List S55} {tx ty : List Int} {v : Value} (h : CmS w0 W gx glx gy gly lx tx ly ty out v) (hb : Below W.heap.size W W') : CmS w0 W' gx glx gy gly lx tx ly ty out v := by
 obtain ⟨gt, c, cB, A, B, X⟩ := h.x
 obtain ⟨gt', c', cB', A', B', Y⟩ := h.y
 exact ⟨below_step h.b hb, ⟨gt, c, cB, A, B, X.below hb⟩, ⟨gt', c', cB', A', B', Y.below hb⟩, h.n1, h.n2, Kd.R_below h.o hb, h.nx, h.ny⟩
theorem R_own_only {W : World} {base : Nat} {ok : Nat → Prop} {v : Value} {l : List S55} (h : Kd.R k55 55 W base ok v l) : Kd.R k55 55 W base (fun k => some k = v.ownBlock) v l :=
 Kd.R_flat (fun hm => by obtain rfl := k55_openM hm; exact k55_mkM _ _ _ _) h (fun k hk _ => hk.symm)
theorem R_any {W : World} {base : Nat} {ok : Nat → Prop} {v : Value} {l : List S55} (h : Kd.R k55 55 W base ok v l) : Kd.R k55 55 W base (fun _ => True) v l := Kd.R_mono h (fun _ _ => trivial)
theorem CmS.take {w0 W W' : World} {gx glx gy gly gt : Nat} {lx lx' ly out : List S55} {tx tx' ty : List Int} {v : Value} (h : CmS w0 W gx glx gy gly lx tx ly ty out v) (hp : 0 < lx.length) (hl : lx'.length ≤ lx.length) (tp : TakeP w0 W w0.heap.size gx glx gt lx' tx' W') : CmS w0 W' gx glx gy gly lx' tx' ly ty out v := by
 obtain ⟨gtx, c, cB, A, B, X⟩ := h.x
 obtain ⟨gty, c', cB', A', B', Y⟩ := h.y
 obtain ⟨gtx', c2, cB2, A2, B2, X2, _⟩ := tp.r
 obtain ⟨_, cur, _, xr, _⟩ := X.row hp
 refine ⟨tp.b, ⟨gtx', c2, cB2, A2, B2, X2⟩, ⟨gty, c', cB', A', B', Y.keep (tp.o gy Y.lt.1 (fun e => h.n1 e.symm) (blk_ne Y.blk xr (by decide))) (fun hq => ?_) (fun hq => ?_)⟩, h.n1, fun a b => h.n2 hp b, R_any (Kd.R_step (R_own_only h.o) (fun k hk hlt => tp.o k hlt ?_ ?_)), fun a => h.nx hp, h.ny⟩
 ·obtain ⟨_, _, _, yr, _⟩ := Y.row hq
  exact tp.o gly (Y.lt.2.1 hq) (blk_ne yr X.blk (by decide)) (fun e => h.n2 hp hq e.symm)
 ·obtain ⟨_, _, _, yt, _⟩ := Y.txt hq
  exact tp.o gty (Y.lt.2.2 hq) (blk_ne yt X.blk (by decide)) (blk_ne yt xr (by decide))
 ·intro e;rw [e] at hk
  exact Kd.R_ne h.o X.blk (by decide) hk
 ·intro e;rw [e] at hk
  exact h.nx hp hk
theorem CmS.append {w0 W w1 : World} {gx glx gy gly : Nat} {lx ly out out' : List S55} {tx ty : List Int} {v v1 : Value} (h : CmS w0 W gx glx gy gly lx tx ly ty out v) (ho : Kd.R k55 55 w1 w0.heap.size (fun _ => True) v1 out') (hb : Below w0.heap.size w0 w1) (hg : W.grownBy w1 v.ownBlock) (hat : v1.ownBlock = v.ownBlock ∨ ∃ b, v1.ownBlock = some b ∧ W.heap.size ≤ b) : CmS w0 w1 gx glx gy gly lx tx ly ty out' v1 := by
 obtain ⟨gtx, c, cB, A, B, X⟩ := h.x
 obtain ⟨gty, c', cB', A', B', Y⟩ := h.y
 have away : ∀ k, k < W.heap.size → some k ≠ v.ownBlock → some k ≠ v1.ownBlock := by
  intro k hk hn e;rcases hat with e1 | ⟨b, e1, hb⟩
  ·exact hn (e.trans e1)
  ·rw [e1] at e
   injection e with e
   omega
 refine ⟨hb, ⟨gtx, c, cB, A, B, X.keep (hg.block gx X.lt.1 (Kd.R_ne h.o X.blk (by decide))) (fun hp => hg.block glx (X.lt.2.1 hp) (h.nx hp)) (fun hp => ?_)⟩, ⟨gty, c', cB', A', B', Y.keep (hg.block gy Y.lt.1 (Kd.R_ne h.o Y.blk (by decide))) (fun hp => hg.block gly (Y.lt.2.1 hp) (h.ny hp)) (fun hp => ?_)⟩, h.n1, h.n2, ho, fun hp => away _ (X.lt.2.1 hp) (h.nx hp), fun hp => away _ (Y.lt.2.1 hp) (h.ny hp)⟩
 ·obtain ⟨_, _, _, e2, _⟩ := X.txt hp
  exact hg.block gtx (X.lt.2.2 hp) (Kd.R_ne h.o e2 (by decide))
 ·obtain ⟨_, _, _, e2, _⟩ := Y.txt hp
  exact hg.block gty (Y.lt.2.2 hp) (Kd.R_ne h.o e2 (by decide))
def composeL : Nat → List S55 → List Int → List S55 → List Int → List S55 → Option (List S55)
 | 0, _, _, _, _, _ => none
 | k + 1, lx, tx, ly, ty, out =>
  if kindR ly = 2 then (takeR ly ty (sizeR ly ty)).bind fun r => if out.length < 4398046511104 then composeL k lx tx r.2.1 r.2.2 (out ++ [r.1]) else none
  else if kindR lx = 3 then (takeR lx tx (sizeR lx tx)).bind fun r => if out.length < 4398046511104 then composeL k r.2.1 r.2.2 ly ty (out ++ [r.1]) else none
  else if kindR lx = 0 ∨ kindR ly = 0 then some out
  else (takeR lx tx (mn (sizeR lx tx) (sizeR ly ty))).bind fun p => (takeR ly ty (mn (sizeR lx tx) (sizeR ly ty))).bind fun q =>
   if q.1.f0 = 1 then (if out.length < 4398046511104 then composeL k p.2.1 p.2.2 q.2.1 q.2.2 (out ++ [p.1]) else none)
   else if p.1.f0 = 1 then (if out.length < 4398046511104 then composeL k p.2.1 p.2.2 q.2.1 q.2.2 (out ++ [q.1]) else none)
   else composeL k p.2.1 p.2.2 q.2.1 q.2.2 out
theorem composeL.mono : ∀ (k : Nat) (lx : List S55) (tx : List Int) (ly : List S55) (ty : List Int) (out : List S55), LeO (composeL k lx tx ly ty out) (composeL (k + 1) lx tx ly ty out)
 | 0, _, _, _, _, _ => fun r h => by cases h
 | k + 1, lx, tx, ly, ty, out => by
  have ih := composeL.mono k
  rw [composeL, composeL]
  split
  ·refine LeO.bind (LeO.refl _) (fun r => ?_)
   split
   ·exact ih _ _ _ _ _
   ·exact LeO.refl _
  ·split
   ·refine LeO.bind (LeO.refl _) (fun r => ?_)
    split
    ·exact ih _ _ _ _ _
    ·exact LeO.refl _
   ·split
    ·exact LeO.refl _
    ·refine LeO.bind (LeO.refl _) (fun p => LeO.bind (LeO.refl _) (fun q => ?_))
     split
     ·split
      ·exact ih _ _ _ _ _
      ·exact LeO.refl _
     ·split
      ·split
       ·exact ih _ _ _ _ _
       ·exact LeO.refl _
      ·exact ih _ _ _ _ _
end Go.Proofs.YtekjfodfedpioaaDoor.F
end
