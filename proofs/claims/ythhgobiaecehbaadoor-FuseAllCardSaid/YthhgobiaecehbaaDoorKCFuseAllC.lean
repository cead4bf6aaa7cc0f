import Derived.Test.YthhgobiaecehbaaDoorKCFuseAllB
import Derived.Below
import Derived.Deep.Draws
import Derived.Deep.AppendLies
import Derived.Maps.AppendAt
import Derived.OwnWalk
import Derived.Laws.BytesArg
import Derived.Laws.MakeOwn
import Derived.Laws.OwnMore
import Derived.Deep.OwnRows
import Derived.Tactics
import Derived.Lib.ConvBytes
import Derived.Laws.Slices
import Derived.WalkKit
import Derived.KernelRfl
import Derived.RowKit3
import Derived.Deep.LoopGhost
import Derived.Deep.QuietTactic
import Derived.BigQuiet
import Derived.WideLaws
import Derived.Deep.DeepCutAuto
import Derived.Deep.CutBlock
import Derived.Deep.RegionHeld3
import Derived.Laws.Rows
import Derived.Lib.AppendStr
import Derived.ArgAppend
import Derived.Laws.IdiomCopy
import Derived.RowKit
import Derived.OrdersHeld
import Derived.Laws.BitsLemmas
import Derived.Laws.StructEq
import Derived.Test.YthhgobiaecehbaaDoorProg
import Derived.Handy
import Derived.Shelf.Unicode.DecodeSlow
import Derived.Ground.NamesProg
import Derived.Shelf.Unicode.ValidAny
import Derived.Laws.RangeString
import Derived.Laws.RangeAny
import Derived.Lib.RuneCount
import Derived.Laws.IdiomStrings
import Derived.Laws.Cover4
import Derived.Great.BuildSlice
section
namespace Go.Proofs.YthhgobiaecehbaaDoor.F
open Go.RowKit Go.Proofs.YthhgobiaecehbaaDoorW.PrintWords Go.Proofs.YthhgobiaecehbaaDoorW.PrintLast Go.Proofs.YthhgobiaecehbaaDoorW.PrintMore
set_option linter.unusedVariables false
set_option linter.unusedSimpArgs false
def kindR : List S41 → Int
  | [] => 0
  | s :: _ => s.f0
def loadR : List S41 → Option (List Int)
  | [] => some []
  | s :: _ => str_runes.f s.f2
def sizeR : List S41 → List Int → Int
  | [], _ => 0
  | s :: _, t => wrap64 (s.f1 + (t.length : Int))
def RowAt (W : World) (A : Option Addr) (gl : Nat) (l : List S41) : Prop :=
  0 < l.length → ∃ (off : Nat) (cur : Array Value), A = some ⟨gl, off, none⟩ ∧ W.heap[gl]? = some (.cells cur 41 (0, 0)) ∧
    ∀ (j : Nat) (s : S41), l[j]? = some s → cur[off + 3 * j]? = some (.int .i64 s.f0) ∧ cur[off + 3 * j + 1]? = some (.int .i64 s.f1) ∧ cur[off + 3 * j + 2]? = some (.string s.f2)
def TxtAt (W : World) (B : Option Addr) (gt : Nat) (t : List Int) : Prop :=
  0 < t.length → ∃ (off : Nat) (cur : Array Value), B = some ⟨gt, off, none⟩ ∧ W.heap[gt]? = some (.cells cur 21 (0, 0)) ∧ ∀ (j : Nat) (r : Int), t[j]? = some r → cur[off + j]? = some (.int .i32 r)
structure Rd (W : World) (n₀ g gl gt : Nat) (A : Option Addr) (c : Nat) (B : Option Addr) (cB : Nat) (l : List S41) (t : List Int) : Prop where
  blk : W.heap[g]? = some (.cells #[.slice A l.length c, .slice B t.length cB] 96 (0, 0))
  lc : l.length ≤ c
  tc : t.length ≤ cB
  lm : c ≤ 9223372036854775807
  tm : cB ≤ 9223372036854775807
  row : RowAt W A gl l
  txt : TxtAt W B gt t
  hg : n₀ ≤ g
  hl : 0 < l.length → n₀ ≤ gl
theorem Rd.keep {W W' : World} {n₀ g gl gt c cB : Nat} {A B : Option Addr} {l : List S41} {t : List Int} (h : Rd W n₀ g gl gt A c B cB l t) (h0 : W'.heap[g]? = W.heap[g]?) (h1 : 0 < l.length → W'.heap[gl]? = W.heap[gl]?) (h2 : 0 < t.length → W'.heap[gt]? = W.heap[gt]?) : Rd W' n₀ g gl gt A c B cB l t :=
  ⟨h0.trans h.blk, h.lc, h.tc, h.lm, h.tm, fun hp => by obtain ⟨o, cur, e1, e2, e3⟩ := h.row hp; exact ⟨o, cur, e1, (h1 hp).trans e2, e3⟩, fun hp => by obtain ⟨o, cur, e1, e2, e3⟩ := h.txt hp; exact ⟨o, cur, e1, (h2 hp).trans e2, e3⟩, h.hg, h.hl⟩
theorem Rd.lt {W : World} {n₀ g gl gt c cB : Nat} {A B : Option Addr} {l : List S41} {t : List Int} (h : Rd W n₀ g gl gt A c B cB l t) : g < W.heap.size ∧ (0 < l.length → gl < W.heap.size) ∧ (0 < t.length → gt < W.heap.size) :=
  ⟨blk_lt h.blk, fun hp => by obtain ⟨_, _, _, e, _⟩ := h.row hp; exact blk_lt e, fun hp => by obtain ⟨_, _, _, e, _⟩ := h.txt hp; exact blk_lt e⟩
theorem Rd.below {W W' : World} {n₀ g gl gt c cB : Nat} {A B : Option Addr} {l : List S41} {t : List Int} (h : Rd W n₀ g gl gt A c B cB l t) (hb : Below W.heap.size W W') : Rd W' n₀ g gl gt A c B cB l t :=
  h.keep (hb.block _ h.lt.1) (fun hp => hb.block _ (h.lt.2.1 hp)) (fun hp => hb.block _ (h.lt.2.2 hp))
theorem Rd.head {W : World} {n₀ g gl gt c cB : Nat} {A B : Option Addr} {s : S41} {r : List S41} {t : List Int} (h : Rd W n₀ g gl gt A c B cB (s :: r) t) :
    ∃ off : Nat, A = some ⟨gl, off, none⟩ ∧ W.cell? ⟨gl, off, none⟩ = some (.int .i64 s.f0) ∧ W.cell? ⟨gl, off + 1, none⟩ = some (.int .i64 s.f1) ∧ W.cell? ⟨gl, off + 2, none⟩ = some (.string s.f2) ∧ W.frozen? ⟨gl, off + 1, none⟩ = false := by
  obtain ⟨off, cur, e1, e2, e3⟩ := h.row (by simp)
  obtain ⟨h0, h1, h2⟩ := e3 0 s rfl
  refine ⟨off, e1, ?_, ?_, ?_, blk_frozen e2 _⟩
  · rw [blk_cell e2 off]; exact h0
  · rw [blk_cell e2 (off + 1)]; exact h1
  · rw [blk_cell e2 (off + 2)]; exact h2
set_option maxRecDepth 100000 in
set_option maxHeartbeats 2000000 in
theorem reader_kind.calls (n₀ g gl gt c cB : Nat) (A B : Option Addr) (l : List S41) (t : List Int) (w : World) (h : Rd w n₀ g gl gt A c B cB l t) :
  Calls Tryd.prog 69 #[.pointer (some ⟨g, 0, none⟩)] w fun e w' => e = .returned (.int .i64 (kindR l)) ∧ w = w' := by
 have c0 := (blk_cell h.blk 0).trans (show _ = some (Value.slice A l.length c) from rfl)
 have HM : Aside0 (c ≤ 9223372036854775807) := ⟨h.lm⟩
 have HC : Aside0 (l.length ≤ c) := ⟨h.lc⟩
 cases l with
 | nil =>
  clear h;go_enter Tryd.func69, Tryd.ntmps69
  go_wp2
  go_ret
  exact ⟨rfl, rfl⟩
 | cons s r =>
  obtain ⟨off, rfl, h0, h1, h2, hf⟩ := h.head
  simp only [List.length_cons] at c0
  obtain ⟨n, hn⟩ : ∃ n, r.length = n := ⟨_, rfl⟩
  rw [hn] at c0
  have d0 : (((n + 1 : Nat) : Int) == 0) = false := by simp; omega
  clear h hn HM HC;go_enter Tryd.func69, Tryd.ntmps69
  go_wp2
  go_ret
  exact ⟨rfl, rfl⟩
set_option maxRecDepth 100000 in
set_option maxHeartbeats 2000000 in
theorem reader_size.calls (n₀ g gl gt c cB : Nat) (A B : Option Addr) (l : List S41) (t : List Int) (w : World) (h : Rd w n₀ g gl gt A c B cB l t) (hp : 0 < l.length) :
  Calls Tryd.prog 71 #[.pointer (some ⟨g, 0, none⟩)] w fun e w' => e = .returned (.int .i64 (sizeR l t)) ∧ w' = w.drew := by
 have c0 := (blk_cell h.blk 0).trans (show _ = some (Value.slice A l.length c) from rfl)
 have c1 := (blk_cell h.blk 1).trans (show _ = some (Value.slice B t.length cB) from rfl)
 have HM : Aside0 (c ≤ 9223372036854775807) := ⟨h.lm⟩
 have HC : Aside0 (l.length ≤ c) := ⟨h.lc⟩
 cases l with
 | nil => simp at hp
 | cons s r =>
  obtain ⟨off, rfl, h0, h1, h2, hf⟩ := h.head
  simp only [List.length_cons] at c0
  obtain ⟨n, hn⟩ : ∃ n, r.length = n := ⟨_, rfl⟩
  rw [hn] at c0
  clear h hn hp HM HC;go_enter Tryd.func71, Tryd.ntmps71
  go_wp2
  go_region
  go_wp2
  go_ret
  exact ⟨rfl, rfl⟩
theorem txt_own {W : World} {base : Nat} {ok : Nat → Prop} {v : Value} {t : List Int} (h : Kd.R (Kd.int .i32) 21 W base ok v t) : ∃ (gt cB : Nat) (B : Option Addr), v = .slice B t.length cB ∧ t.length ≤ cB ∧ cB ≤ 9223372036854775807 ∧ TxtAt W B gt t ∧ (0 < t.length → base ≤ gt) := by
 have ho := Kd.own_of_R h
 rcases ho.2 with ⟨hv, h0⟩ | ⟨g, cap, cur, hv, hb, hh, hnc, hcm, hcs, htake⟩
 ·have ht : t.length = 0 := h0
  exact ⟨0, 0, none, by rw [hv, ht], by omega, by omega, fun hp => by omega, fun hp => by omega⟩
 ·refine ⟨g, cap, _, hv, hnc, hcm, fun _ => ⟨0, cur, rfl, hh, fun j r hr => ?_⟩, fun _ => hb⟩
  have := congrArg (·[j]?) htake
  simp only [List.getElem?_take, encs, List.getElem?_map, hr, Option.map_some, Array.getElem?_toList] at this
  have hj := (List.getElem?_eq_some_iff.1 hr).1
  rw [if_pos (by omega)] at this
  rw [Nat.zero_add]
  exact this
set_option maxRecDepth 100000 in
set_option maxHeartbeats 2000000 in
theorem reader_load.calls (n₀ g gl c : Nat) (A : Option Addr) (V : Value) (l : List S41) (t2 : List Int) (w0 w : World) (hn : n₀ = w0.heap.size) (hB : Below n₀ w0 w)
  (hblk : w.heap[g]? = some (.cells #[.slice A l.length c, V] 96 (0, 0))) (lc : l.length ≤ c) (lm : c ≤ 9223372036854775807) (row : RowAt w A gl l) (hg : n₀ ≤ g) (hl : 0 < l.length → n₀ ≤ gl) (hL : loadR l = some t2) :
  Calls Tryd.prog 84 #[.pointer (some ⟨g, 0, none⟩)] w fun e w' => e = .returned (.tuple #[]) ∧ ∃ (gt cB : Nat) (B : Option Addr), Rd w' n₀ g gl gt A c B cB l t2 ∧ Below n₀ w0 w' ∧ (∀ k, k < w.heap.size → k ≠ g → w'.heap[k]? = w.heap[k]?) ∧ (0 < t2.length → w.heap.size ≤ gt) := by
 subst hn
 have BK := Aside0.mk hblk;have c0 := (blk_cell hblk 0).trans (show _ = some (Value.slice A l.length c) from rfl)
 have c1 := (blk_cell hblk 1).trans (show _ = some V from rfl)
 have f1 := blk_frozen hblk 1
 have bk1 : (w.setCell ⟨g, 1, none⟩ (.slice none 0 0)).heap[g]? = some (.cells #[.slice A l.length c, .slice none 0 0] 96 (0, 0)) := blk_put hblk 1 _ rfl
 have c2 := (blk_cell bk1 0).trans (show _ = some (Value.slice A l.length c) from rfl)
 have BK1 := Aside0.mk bk1;have HB1 := Aside0.mk (hB.setCell (p := ⟨g, 1, none⟩) hg (.slice none 0 0))
 have HG := Aside0.mk hg;have HH := Aside0.mk hl;have LC := Aside0.mk lc;have LM := Aside0.mk lm;cases l with
 | nil =>
  obtain rfl : [] = t2 := by simpa [loadR] using hL
  simp only [List.length_nil] at c0 c2 BK1
  clear hblk bk1 hB hg hl lc lm row hL BK;go_enter Tryd.func84, Tryd.ntmps84
  go_wp2
  go_end0
  exact ⟨rfl, 0, 0, none, ⟨BK1.out, Nat.zero_le _, Nat.le_refl _, LM.out, by omega, fun h => by simp at h, fun h => by simp at h, HG.out, HH.out⟩, HB1.out, fun k hk hkg => Below.heap_setCell w ⟨g, 1, none⟩ _ k hkg, fun h => by simp at h⟩
 | cons s r =>
  have rowA := Aside0.mk row;have row1 : RowAt (w.setCell ⟨g, 1, none⟩ (.slice none 0 0)) A gl (s :: r) := fun hp => by
   obtain ⟨o, cur, e1, e2, e3⟩ := row hp
   exact ⟨o, cur, e1, (Below.heap_setCell w ⟨g, 1, none⟩ _ gl (blk_ne e2 hblk (by decide))).trans e2, e3⟩
  have RR : Aside0 (RowAt (w.setCell ⟨g, 1, none⟩ (.slice none 0 0)) A gl (s :: r)) := ⟨row1⟩
  obtain ⟨off, cur, rfl, e2, e3⟩ := row1 (by simp)
  have h2 := (blk_cell e2 (off + 2)).trans (e3 0 s rfl).2.2
  have HL : Aside0 (str_runes.f s.f2 = some t2) := ⟨hL⟩
  have c3 := (blk_cell bk1 1).trans (show _ = some (Value.slice none 0 0) from rfl)
  simp only [List.length_cons] at c0 c2
  obtain ⟨n, hn⟩ : ∃ n, r.length = n := ⟨_, rfl⟩
  have HNN := Aside0.mk hn;rw [hn] at c0 c2
  have d0 : decide ((0 : Int) < ((n + 1 : Nat) : Int)) = true := decide_eq_true (by omega)
  clear hblk bk1 hB hg hl lc lm row hL BK hn e2 e3;go_enter Tryd.func84, Tryd.ntmps84
  go_wp2_with ((with_reducible refine gate_convert (s := 9) (t := 69) rfl ?_); refine goesC_ (some 19) rfl rfl (.string s.f2) rfl rfl ?_; (with_reducible refine (str_runes.calls s.f2 t2 _ HL.out).mono ?_); rintro e w2 ⟨v, rfl, ho, hb⟩; refine ⟨_, rfl, ?_⟩; obtain ⟨gt, cB, B, rfl, tc, tm, htx, hgt⟩ := txt_own ho; have HT := Aside0.mk htx; have HGT := Aside0.mk hgt; have TC := Aside0.mk tc; have TM := Aside0.mk tm; have HB2 := Aside0.mk hb; have c4 := (blk_cell (blk_below BK1.out hb) 1).trans (show _ = some (Value.slice none 0 0) from rfl); have f4 := blk_frozen (blk_below BK1.out hb) 1; clear ho hb htx hgt tc tm)
  go_end0
  have hgr : g < w.heap.size := by have := blk_lt BK1.out; simpa [World.setCell] using this
  have hsz : (w.setCell ⟨g, 1, none⟩ (.slice none 0 0)).heap.size = w.heap.size := by simp [World.setCell]
  refine ⟨rfl, gt, cB, B, ⟨blk_put (blk_below BK1.out HB2.out) 1 _ rfl, LC.out, TC.out, LM.out, TM.out, fun hp => ?_, fun hp => ?_, HG.out, HH.out⟩, (below_step HB1.out HB2.out).setCell (p := ⟨g, 1, none⟩) HG.out _, fun k hk hkg => ?_, fun hp => by have := HGT.out hp; omega⟩
  ·obtain ⟨o, cur, e1, e2, e3⟩ := RR.out hp
   exact ⟨o, cur, e1, (Below.heap_setCell w2 ⟨g, 1, none⟩ _ gl (blk_ne e2 BK1.out (by decide))).trans (blk_below e2 HB2.out), e3⟩
  ·obtain ⟨o, cur, e1, e2, e3⟩ := HT.out hp
   exact ⟨o, cur, e1, (Below.heap_setCell w2 ⟨g, 1, none⟩ _ gt (by have := HGT.out hp; show gt ≠ g; omega)).trans e2, e3⟩
  ·exact (Below.heap_setCell w2 ⟨g, 1, none⟩ _ k hkg).trans ((HB2.out.block k (by omega)).trans (Below.heap_setCell w ⟨g, 1, none⟩ _ k hkg))
def takeR : List S41 → List Int → Int → Option (S41 × List S41 × List Int)
 | [], _, _ => none
 | s :: r, t, n =>
  if s.f0 = 2 then
   (if 0 ≤ n ∧ n ≤ (t.length : Int) then
    (if sizeR (s :: r) (t.drop n.toNat) = 0 then (loadR r).bind fun t2 => some (⟨2, 0, runesBytes (t.take n.toNat)⟩, r, t2) else some (⟨2, 0, runesBytes (t.take n.toNat)⟩, s :: r, t.drop n.toNat))
   else none)
  else (if sizeR (⟨s.f0, wrap64 (s.f1 - n), s.f2⟩ :: r) t = 0 then (loadR r).bind fun t2 => some (⟨s.f0, n, ⟨#[]⟩⟩, r, t2) else some (⟨s.f0, n, ⟨#[]⟩⟩, ⟨s.f0, wrap64 (s.f1 - n), s.f2⟩ :: r, t))
structure TakeP (w0 w : World) (n₀ g gl gt : Nat) (l' : List S41) (t' : List Int) (w' : World) : Prop where
 b : Below n₀ w0 w'
 z : w.heap.size ≤ w'.heap.size
 o : ∀ k, k < w.heap.size → k ≠ g → k ≠ gl → w'.heap[k]? = w.heap[k]?
 r : ∃ (gt' c cB : Nat) (A B : Option Addr), Rd w' n₀ g gl gt' A c B cB l' t' ∧ (0 < t'.length → gt' = gt ∨ w.heap.size ≤ gt')
theorem row_set1 {W : World} {gl off : Nat} {cur : Array Value} {s : S41} {r : List S41} (z : Int) (hb : W.heap[gl]? = some (.cells cur 41 (0, 0)))
  (h : ∀ (j : Nat) (x : S41), (s :: r)[j]? = some x → cur[off + 3 * j]? = some (.int .i64 x.f0) ∧ cur[off + 3 * j + 1]? = some (.int .i64 x.f1) ∧ cur[off + 3 * j + 2]? = some (.string x.f2)) :
  ∃ cur', (W.setCell ⟨gl, off + 1, none⟩ (.int .i64 z)).heap[gl]? = some (.cells cur' 41 (0, 0)) ∧
   ∀ (j : Nat) (x : S41), ((⟨s.f0, z, s.f2⟩ : S41) :: r)[j]? = some x → cur'[off + 3 * j]? = some (.int .i64 x.f0) ∧ cur'[off + 3 * j + 1]? = some (.int .i64 x.f1) ∧ cur'[off + 3 * j + 2]? = some (.string x.f2) := by
 refine ⟨cur.setIfInBounds (off + 1) (.int .i64 z), blk_put hb (off + 1) _ rfl, fun j x hx => ?_⟩
 have hlt : off + 1 < cur.size := by
  obtain ⟨_, h1, _⟩ := h 0 s rfl
  exact (Array.getElem?_eq_some_iff.1 h1).1
 cases j with
 | zero =>
  obtain rfl : (⟨s.f0, z, s.f2⟩ : S41) = x := by simpa using hx
  obtain ⟨h0, h1, h2⟩ := h 0 s rfl
  refine ⟨?_, ?_, ?_⟩
  ·rw [Array.getElem?_setIfInBounds_ne (by omega)]; exact h0
  ·simp [hlt]
  ·rw [Array.getElem?_setIfInBounds_ne (by omega)]; exact h2
 | succ j =>
  obtain ⟨h0, h1, h2⟩ := h (j + 1) x (by simpa using hx)
  rw [Array.getElem?_setIfInBounds_ne (by omega), Array.getElem?_setIfInBounds_ne (by omega), Array.getElem?_setIfInBounds_ne (by omega)]
  exact ⟨h0, h1, h2⟩
theorem row_tail {W : World} {A : Option Addr} {gl c : Nat} {s : S41} {r : List S41} (h : RowAt W A gl (s :: r)) (hc : (s :: r).length ≤ c) : RowAt W (if c = 1 then A else A.map (·.add (1 * 3))) gl r := by
 intro hp;obtain ⟨off, cur, e1, e2, e3⟩ := h (by simp)
 subst e1
 have hc1 : c ≠ 1 := by simp at hc; omega
 refine ⟨off + 3, cur, ?_, e2, fun j x hx => ?_⟩
 ·rw [if_neg hc1]
  simp [Addr.add]
 ·have := e3 (j + 1) x (by simpa using hx)
  rw [show off + 3 * (j + 1) = off + 3 + 3 * j by omega] at this
  exact this
theorem txt_drop {W : World} {B : Option Addr} {gt cB m : Nat} {t : List Int} (h : TxtAt W B gt t) (hc : t.length ≤ cB) (hm : m ≤ t.length) : TxtAt W (if cB = m then B else B.map (·.add (m * 1))) gt (t.drop m) := by
 intro hp;rw [List.length_drop] at hp
 obtain ⟨off, cur, e1, e2, e3⟩ := h (by omega)
 subst e1
 refine ⟨off + m, cur, ?_, e2, fun j r hr => ?_⟩
 ·rw [if_neg (by omega)]
  simp [Addr.add]
 ·rw [List.getElem?_drop] at hr
  have := e3 (m + j) r hr
  rw [show off + m + j = off + (m + j) by omega]
  exact this
theorem txt_reads {W : World} {B : Option Addr} {gt cB m : Nat} {t : List Int} (h : TxtAt W B gt t) (hc : t.length ≤ cB) (hB : cB ≤ 9223372036854775807) (hm : m ≤ t.length) : Kd.C (Kd.int .i32) W B (t.take m).length (t.take m) := by
 have hl : (t.take m).length = m := by rw [List.length_take]; omega
 refine Kd.C_of_reads (enc := Value.int .i32) (d := (0 : Int)) (h1 := fun _ => rfl) ⟨rfl, by omega, fun hp => ?_⟩
 obtain ⟨off, cur, e1, e2, e3⟩ := h (by omega)
 refine ⟨_, e1, fun j hj => ?_⟩
 have hj2 : j < t.length := by omega
 have := e3 j t[j] (List.getElem?_eq_getElem hj2)
 rw [show (⟨gt, off, none⟩ : Addr).add j = ⟨gt, off + j, none⟩ by simp [Addr.add], blk_cell e2, this, List.getD_eq_getElem?_getD, List.getElem?_take, if_pos (by omega), List.getElem?_eq_getElem hj2]
 rfl
theorem conv_take {W : World} {B : Option Addr} {gt cB m : Nat} {t : List Int} (h : TxtAt W B gt t) (hc : t.length ≤ cB) (hB : cB ≤ 9223372036854775807) (hm : m ≤ t.length) :
  (convert 69 9 (.slice B m cB)).run Tryd.prog W = .ok (.string (runesBytes (t.take m))) W := by
 have hl : (t.take m).length = m := by rw [List.length_take]; omega
 have hr := txt_reads h hc hB hm
 cases B with
 | none =>
  have h0 : m = 0 := by
   rcases Nat.eq_zero_or_pos m with h1 | h1
   ·exact h1
   ·obtain ⟨_, _, e, _⟩ := h (by omega); cases e
  subst h0
  rw [show t.take 0 = [] from rfl]
  exact run_convert_runes_nil (P := Tryd.prog) W 69 9 21 _ _ Tryd.underlying69 Tryd.underlying21 Tryd.underlying9
 | some ad =>
  have hcc : ∀ j, j < (t.take m).length → W.cell? (ad.add j) = some (.int .i32 ((t.take m).getD j 0)) := by
   intro j hj;obtain ⟨ad', e, hx⟩ := Kd.at_int hr (j : Int) (by omega) (by omega)
   cases e
   simpa [rd] using hx
  have hrun := run_convert_runes (P := Tryd.prog) W 69 9 21 ad (t.take m).length cB (t.take m) (Nat.le_refl _) Tryd.underlying69 Tryd.underlying21 Tryd.underlying9 hcc
  rw [List.take_length] at hrun
  rw [hl] at hrun
  exact hrun
end Go.Proofs.YthhgobiaecehbaaDoor.F
end
section
namespace Go.Proofs.YthhgobiaecehbaaDoor.F
open Go.RowKit Go.Proofs.YthhgobiaecehbaaDoorW.PrintWords Go.Proofs.YthhgobiaecehbaaDoorW.PrintLast Go.Proofs.YthhgobiaecehbaaDoorW.PrintMore
set_option linter.unusedVariables false
set_option linter.unusedSimpArgs false
def newR (k : Nat) (l : List S41) : Option (List S41 × List Int) := (normal_Of.f k l).bind fun x => (loadR x).bind fun t => some (x, t)
theorem newR.mono (l : List S41) (k : Nat) : LeO (newR k l) (newR (k + 1) l) := by
  unfold newR
  exact LeO.bind (normal_Of.mono _ _) (fun _ => LeO.refl _)
theorem row_own {W : World} {base : Nat} {ok : Nat → Prop} {v : Value} {l : List S41} (h : Kd.R k41 41 W base ok v l) : ∃ (gl c : Nat) (A : Option Addr), v = .slice A l.length c ∧ l.length ≤ c ∧ c ≤ 9223372036854775807 ∧ RowAt W A gl l ∧ (0 < l.length → base ≤ gl) := by
  obtain ⟨hok, inner, ho, hr⟩ := h
  rcases ho.2 with ⟨hv, h0⟩ | ⟨g, cap, cur, hv, hb, hh, hnc, hcm, hcs, htake⟩
  · have ht : l.length = 0 := h0
    exact ⟨0, 0, none, by rw [hv, ht], by omega, by omega, fun hp => by omega, fun hp => by omega⟩
  · refine ⟨g, cap, _, hv, hnc, hcm, fun _ => ⟨0, cur, rfl, hh, fun j s hs => ?_⟩, fun _ => hb⟩
    have hj := (List.getElem?_eq_some_iff.1 hs).1
    have hM : (inner.drop (j * 3)).take 3 = [Value.int .i64 s.f0, .int .i64 s.f1, .string s.f2] := k41_openM (hr.2 j s hs)
    have cell : ∀ q, q < 3 → cur[0 + 3 * j + q]? = ([Value.int .i64 s.f0, .int .i64 s.f1, .string s.f2] : List Value)[q]? := by
      intro q hq
      have e := congrArg (·[q]?) hM
      simp only [List.getElem?_take, List.getElem?_drop] at e
      rw [if_pos hq] at e
      rw [← e, ← htake, List.getElem?_take, if_pos (show j * 3 + q < l.length * k41.sz from by show j * 3 + q < l.length * 3; omega), Array.getElem?_toList]
      congr 1
      omega
    exact ⟨cell 0 (by omega), cell 1 (by omega), cell 2 (by omega)⟩
set_option maxRecDepth 100000 in
set_option maxHeartbeats 4000000 in
theorem newReader.calls (k : Nat) (A0 : Option Addr) (c0 : Nat) (l0 : List S41) (l : List S41) (t : List Int) (w0 w : World) (hB : Below w0.heap.size w0 w) (hr0 : Kd.C k41 w A0 l0.length l0) (hc0 : l0.length ≤ c0) (h : newR k l0 = some (l, t)) :
  Calls Tryd.prog 68 #[.slice A0 l0.length c0] w fun e w' => ∃ (g gl gt c cB : Nat) (A B : Option Addr), e = .returned (.pointer (some ⟨g, 0, none⟩)) ∧ Rd w' w0.heap.size g gl gt A c B cB l t ∧ Below w.heap.size w w' ∧ w.heap.size ≤ g ∧ (0 < l.length → w.heap.size ≤ gl) ∧ (0 < t.length → w.heap.size ≤ gt) := by
 obtain ⟨l', hl, h⟩ := Option.bind_eq_some_iff.1 h
 obtain ⟨t', ht, h⟩ := Option.bind_eq_some_iff.1 h
 obtain ⟨rfl, rfl⟩ : l' = l ∧ t' = t := by simpa using h
 have HL := Aside0.mk hl;have HT := Aside0.mk ht;have HB := Aside0.mk hB;have HR0 := Aside0.mk hr0;have HC0 := Aside0.mk hc0;clear h hl ht hB hr0 hc0;go_enter Tryd.func68, Tryd.ntmps68
 go_wp2_with (first | (go_at_call 26; (with_reducible refine (normal_Of.calls k _ _ l0 l' _ HR0.out HC0.out HL.out).mono ?_); rintro e w1 ⟨v, rfl, ho, hb⟩; obtain ⟨gl, c, A, rfl, lc, lm, hrow, hgl⟩ := row_own ho; have HW1 := Aside0.mk hb; have LC := Aside0.mk lc; have LM := Aside0.mk lm; have HROW := Aside0.mk hrow; have HGL := Aside0.mk hgl; clear ho hb lc lm hrow hgl) | (go_at_call 84; fail))
 have hs1 : (w1.alloc (.cells #[.slice A l'.length c, .slice none 0 0] 96)).heap.size = w1.heap.size + 1 := size_alloc _ _
 have hsz : w.heap.size ≤ w1.heap.size := HW1.out.size
 have hws : w0.heap.size ≤ w.heap.size := HB.out.size
 have HB2 := Aside0.mk (below_alloc (below_step HB.out HW1.out) (.cells #[.slice A l'.length c, .slice none 0 0] 96))
 have HB2w := Aside0.mk (below_alloc HW1.out (.cells #[.slice A l'.length c, .slice none 0 0] 96))
 have BK := Aside0.mk (blk_new w1 (.cells #[.slice A l'.length c, .slice none 0 0] 96))
 have ROW2 : Aside0 (RowAt (w1.alloc (.cells #[.slice A l'.length c, .slice none 0 0] 96)) A gl l') := ⟨fun hp => by
  obtain ⟨o, cur, e1, e2, e3⟩ := HROW.out hp
  exact ⟨o, cur, e1, blk_alloc e2 _, e3⟩⟩
 have HS1 := Aside0.mk hs1;clear hs1;go_wp2_with ((go_at_call 84; (with_reducible refine (reader_load.calls w0.heap.size w1.heap.size gl c A _ l' t' w0 _ rfl HB2.out BK.out LC.out LM.out ROW2.out (Nat.le_trans hws hsz) (fun hp => Nat.le_trans hws (HGL.out hp)) HT.out).mono ?_); rintro e W5 ⟨rfl, gt', cB5, B5', R5, hB5, hO5, hgt5⟩; have RR5 := Aside0.mk R5; have HB5 := Aside0.mk hB5; have HO5 := Aside0.mk hO5; have HG5 := Aside0.mk hgt5; clear R5 hB5 hO5 hgt5))
 go_ret
 refine ⟨_, gl, gt', c, cB5, A, B5', rfl, RR5.out, ?_, hsz, HGL.out, fun hp => by have := HG5.out hp; have := HS1.out; omega⟩
 exact ⟨HB5.out.os.trans HB.out.os.symm, HB5.out.tape.trans HB.out.tape.symm, HB5.out.output.trans HB.out.output.symm, by have := RR5.out.lt.1; omega, fun k hk => (HO5.out k (by have := HS1.out; omega) (by omega)).trans (HB2w.out.block k hk)⟩
theorem takeR_len {l l' : List S41} {t t' : List Int} {n : Int} {x : S41} (h : takeR l t n = some (x, l', t')) : l'.length ≤ l.length ∧ 0 < l.length := by
 cases l with
 | nil => cases h
 | cons s r =>
  refine ⟨?_, by simp⟩
  simp only [takeR] at h
  split at h
  ·split at h
   ·split at h
    ·obtain ⟨t2, _, e⟩ := Option.bind_eq_some_iff.1 h
     injection e with e
     injection e with _ e
     injection e with e _
     subst e
     simp
    ·injection h with e
     injection e with _ e
     injection e with e _
     subst e
     exact Nat.le_refl _
   ·cases h
  ·split at h
   ·obtain ⟨t2, _, e⟩ := Option.bind_eq_some_iff.1 h
    injection e with e
    injection e with _ e
    injection e with e _
    subst e
    simp
   ·injection h with e
    injection e with _ e
    injection e with e _
    subst e
    simp
structure CmS (w0 W : World) (gx glx gy gly : Nat) (lx : List S41) (tx : List Int) (ly : List S41) (ty : List Int) (out : List S41) (v : Value) : Prop where
 b : Below w0.heap.size w0 W
 x : ∃ (gt c cB : Nat) (A B : Option Addr), Rd W w0.heap.size gx glx gt A c B cB lx tx
 y : ∃ (gt c cB : Nat) (A B : Option Addr), Rd W w0.heap.size gy gly gt A c B cB ly ty
 n1 : gx ≠ gy
 n2 : 0 < lx.length → 0 < ly.length → glx ≠ gly
 o : Kd.R k41 41 W w0.heap.size (fun _ => True) v out
 nx : 0 < lx.length → some glx ≠ v.ownBlock
 ny : 0 < ly.length → some gly ≠ v.ownBlock
theorem CmS.swap {w0 W : World} {gx glx gy gly : Nat} {lx ly out : List S41} {tx ty : List Int} {v : Value} (h : CmS w0 W gx glx gy gly lx tx ly ty out v) : CmS w0 W gy gly gx glx ly ty lx tx out v :=
 ⟨h.b, h.y, h.x, h.n1.symm, fun a b e => h.n2 b a e.symm, h.o, h.ny, h.nx⟩
theorem CmS.below {w0 W W' : World} {gx glx gy gly : Nat} {lx ly out : List S41} {tx ty : List Int} {v : Value} (h : CmS w0 W gx glx gy gly lx tx ly ty out v) (hb : Below W.heap.size W W') : CmS w0 W' gx glx gy gly lx tx ly ty out v := by
 obtain ⟨gt, c, cB, A, B, X⟩ := h.x
 obtain ⟨gt', c', cB', A', B', Y⟩ := h.y
 exact ⟨below_step h.b hb, ⟨gt, c, cB, A, B, X.below hb⟩, ⟨gt', c', cB', A', B', Y.below hb⟩, h.n1, h.n2, Kd.R_below h.o hb, h.nx, h.ny⟩
theorem R_own_only {W : World} {base : Nat} {ok : Nat → Prop} {v : Value} {l : List S41} (h : Kd.R k41 41 W base ok v l) : Kd.R k41 41 W base (fun k => some k = v.ownBlock) v l :=
 Kd.R_flat (fun hm => by obtain rfl := k41_openM hm; exact k41_mkM _ _ _ _) h (fun k hk _ => hk.symm)
theorem R_any {W : World} {base : Nat} {ok : Nat → Prop} {v : Value} {l : List S41} (h : Kd.R k41 41 W base ok v l) : Kd.R k41 41 W base (fun _ => True) v l := Kd.R_mono h (fun _ _ => trivial)
theorem CmS.take {w0 W W' : World} {gx glx gy gly gt : Nat} {lx lx' ly out : List S41} {tx tx' ty : List Int} {v : Value} (h : CmS w0 W gx glx gy gly lx tx ly ty out v) (hp : 0 < lx.length) (hl : lx'.length ≤ lx.length) (tp : TakeP w0 W w0.heap.size gx glx gt lx' tx' W') : CmS w0 W' gx glx gy gly lx' tx' ly ty out v := by
 obtain ⟨gtx, c, cB, A, B, X⟩ := h.x
 obtain ⟨gty, c', cB', A', B', Y⟩ := h.y
 obtain ⟨gtx', c2, cB2, A2, B2, X2, _⟩ := tp.r
 obtain ⟨_, cur, _, xr, _⟩ := X.row hp
 refine ⟨tp.b, ⟨gtx', c2, cB2, A2, B2, X2⟩, ⟨gty, c', cB', A', B', Y.keep (tp.o gy Y.lt.1 (fun e => h.n1 e.symm) (blk_ne Y.blk xr (by decide))) (fun hq => ?_) (fun hq => ?_)⟩, h.n1, fun a b => h.n2 hp b, R_any (Kd.R_step (R_own_only h.o) (fun k hk hlt => tp.o k hlt ?_ ?_)), fun a => h.nx hp, h.ny⟩
 ·obtain ⟨_, _, _, yr, _⟩ := Y.row hq
  exact tp.o gly (Y.lt.2.1 hq) (blk_ne yr X.blk (by decide)) (fun e => h.n2 hp hq e.symm)
 ·obtain ⟨_, _, _, yt, _⟩ := Y.txt hq
  exact tp.o gty (Y.lt.2.2 hq) (blk_ne yt X.blk (by decide)) (blk_ne yt xr (by decide))
 ·intro e;rw [e] at hk
  exact Kd.R_ne h.o X.blk (by decide) hk
 ·intro e;rw [e] at hk
  exact h.nx hp hk
theorem CmS.append {w0 W w1 : World} {gx glx gy gly : Nat} {lx ly out out' : List S41} {tx ty : List Int} {v v1 : Value} (h : CmS w0 W gx glx gy gly lx tx ly ty out v) (ho : Kd.R k41 41 w1 w0.heap.size (fun _ => True) v1 out') (hb : Below w0.heap.size w0 w1) (hg : W.grownBy w1 v.ownBlock) (hat : v1.ownBlock = v.ownBlock ∨ ∃ b, v1.ownBlock = some b ∧ W.heap.size ≤ b) : CmS w0 w1 gx glx gy gly lx tx ly ty out' v1 := by
 obtain ⟨gtx, c, cB, A, B, X⟩ := h.x
 obtain ⟨gty, c', cB', A', B', Y⟩ := h.y
 have away : ∀ k, k < W.heap.size → some k ≠ v.ownBlock → some k ≠ v1.ownBlock := by
  intro k hk hn e;rcases hat with e1 | ⟨b, e1, hb⟩
  ·exact hn (e.trans e1)
  ·rw [e1] at e
   injection e with e
   omega
 refine ⟨hb, ⟨gtx, c, cB, A, B, X.keep (hg.block gx X.lt.1 (Kd.R_ne h.o X.blk (by decide))) (fun hp => hg.block glx (X.lt.2.1 hp) (h.nx hp)) (fun hp => ?_)⟩, ⟨gty, c', cB', A', B', Y.keep (hg.block gy Y.lt.1 (Kd.R_ne h.o Y.blk (by decide))) (fun hp => hg.block gly (Y.lt.2.1 hp) (h.ny hp)) (fun hp => ?_)⟩, h.n1, h.n2, ho, fun hp => away _ (X.lt.2.1 hp) (h.nx hp), fun hp => away _ (Y.lt.2.1 hp) (h.ny hp)⟩
 ·obtain ⟨_, _, _, e2, _⟩ := X.txt hp
  exact hg.block gtx (X.lt.2.2 hp) (Kd.R_ne h.o e2 (by decide))
 ·obtain ⟨_, _, _, e2, _⟩ := Y.txt hp
  exact hg.block gty (Y.lt.2.2 hp) (Kd.R_ne h.o e2 (by decide))
def composeL : Nat → List S41 → List Int → List S41 → List Int → List S41 → Option (List S41)
 | 0, _, _, _, _, _ => none
 | k + 1, lx, tx, ly, ty, out =>
  if kindR ly = 2 then (takeR ly ty (sizeR ly ty)).bind fun r => if out.length < 4398046511104 then composeL k lx tx r.2.1 r.2.2 (out ++ [r.1]) else none
  else if kindR lx = 3 then (takeR lx tx (sizeR lx tx)).bind fun r => if out.length < 4398046511104 then composeL k r.2.1 r.2.2 ly ty (out ++ [r.1]) else none
  else if kindR lx = 0 ∨ kindR ly = 0 then some out
  else (takeR lx tx (mn (sizeR lx tx) (sizeR ly ty))).bind fun p => (takeR ly ty (mn (sizeR lx tx) (sizeR ly ty))).bind fun q =>
   if q.1.f0 = 1 then (if out.length < 4398046511104 then composeL k p.2.1 p.2.2 q.2.1 q.2.2 (out ++ [p.1]) else none)
   else if p.1.f0 = 1 then (if out.length < 4398046511104 then composeL k p.2.1 p.2.2 q.2.1 q.2.2 (out ++ [q.1]) else none)
   else composeL k p.2.1 p.2.2 q.2.1 q.2.2 out
theorem composeL.mono : ∀ (k : Nat) (lx : List S41) (tx : List Int) (ly : List S41) (ty : List Int) (out : List S41), LeO (composeL k lx tx ly ty out) (composeL (k + 1) lx tx ly ty out)
 | 0, _, _, _, _, _ => fun r h => by cases h
 | k + 1, lx, tx, ly, ty, out => by
  have ih := composeL.mono k
  rw [composeL, composeL]
  split
  ·refine LeO.bind (LeO.refl _) (fun r => ?_)
   split
   ·exact ih _ _ _ _ _
   ·exact LeO.refl _
  ·split
   ·refine LeO.bind (LeO.refl _) (fun r => ?_)
    split
    ·exact ih _ _ _ _ _
    ·exact LeO.refl _
   ·split
    ·exact LeO.refl _
    ·refine LeO.bind (LeO.refl _) (fun p => LeO.bind (LeO.refl _) (fun q => ?_))
     split
     ·split
      ·exact ih _ _ _ _ _
      ·exact LeO.refl _
     ·split
      ·split
       ·exact ih _ _ _ _ _
       ·exact LeO.refl _
      ·exact ih _ _ _ _ _
end Go.Proofs.YthhgobiaecehbaaDoor.F
end
section
namespace Go.Proofs.YthhgobiaecehbaaDoor.F
open Go.RowKit Go.Proofs.YthhgobiaecehbaaDoorW.PrintWords Go.Proofs.YthhgobiaecehbaaDoorW.PrintLast Go.Proofs.YthhgobiaecehbaaDoorW.PrintMore
set_option linter.unusedVariables false
set_option linter.unusedSimpArgs false
theorem Rd.setText {W : World} {n₀ g gl gt gt' c cB cB' : Nat} {A B B' : Option Addr} {l : List S41} {t t' : List Int} (h : Rd W n₀ g gl gt A c B cB l t) (h1 : t'.length ≤ cB') (h2 : cB' ≤ 9223372036854775807) (h3 : TxtAt W B' gt' t') :
    Rd (W.setCell ⟨g, 1, none⟩ (.slice B' t'.length cB')) n₀ g gl gt' A c B' cB' l t' :=
  ⟨blk_put h.blk 1 _ rfl, h.lc, h1, h.lm, h2, fun hp => by
    obtain ⟨o, cur, e1, e2, e3⟩ := h.row hp
    exact ⟨o, cur, e1, (Below.heap_setCell W ⟨g, 1, none⟩ _ gl (blk_ne e2 h.blk (by decide))).trans e2, e3⟩, fun hp => by
    obtain ⟨o, cur, e1, e2, e3⟩ := h3 hp
    exact ⟨o, cur, e1, (Below.heap_setCell W ⟨g, 1, none⟩ _ gt' (blk_ne e2 h.blk (by decide))).trans e2, e3⟩, h.hg, h.hl⟩
theorem Rd.drew {W : World} {n₀ g gl gt c cB : Nat} {A B : Option Addr} {l : List S41} {t : List Int} (h : Rd W n₀ g gl gt A c B cB l t) : Rd W.drew n₀ g gl gt A c B cB l t := h.below (below_drew1 (Below.refl _ _))
theorem Rd.far {W : World} {n₀ g gl gt c cB : Nat} {A B : Option Addr} {l : List S41} {t : List Int} (h : Rd W n₀ g gl gt A c B cB l t) (k j : Nat) (v : Value) (h0 : k ≠ g) (h1 : 0 < l.length → k ≠ gl) (h2 : 0 < t.length → k ≠ gt) : Rd (W.setCell ⟨k, j, none⟩ v) n₀ g gl gt A c B cB l t :=
  h.keep (Below.heap_setCell W ⟨k, j, none⟩ v g (fun e => h0 e.symm)) (fun hp => Below.heap_setCell W ⟨k, j, none⟩ v gl (fun e => h1 hp e.symm)) (fun hp => Below.heap_setCell W ⟨k, j, none⟩ v gt (fun e => h2 hp e.symm))
theorem Rd.setN {W : World} {n₀ g gl gt c cB off : Nat} {B : Option Addr} {s : S41} {r : List S41} {t : List Int} (h : Rd W n₀ g gl gt (some ⟨gl, off, none⟩) c B cB (s :: r) t) (z : Int) : Rd (W.setCell ⟨gl, off + 1, none⟩ (.int .i64 z)) n₀ g gl gt (some ⟨gl, off, none⟩) c B cB (⟨s.f0, z, s.f2⟩ :: r) t := by
  obtain ⟨o, cur, e1, e2, e3⟩ := h.row (by simp)
  obtain rfl : off = o := by simpa using e1
  refine ⟨(Below.heap_setCell W ⟨gl, off + 1, none⟩ _ g (blk_ne h.blk e2 (by decide))).trans h.blk, h.lc, h.tc, h.lm, h.tm, fun _ => ?_, fun hp => ?_, h.hg, fun _ => h.hl (by simp)⟩
  · obtain ⟨cur', f2, f3⟩ := row_set1 z e2 e3
    exact ⟨off, cur', rfl, f2, f3⟩
  · obtain ⟨o, cur2, x1, x2, x3⟩ := h.txt hp
    exact ⟨o, cur2, x1, (Below.heap_setCell W ⟨gl, off + 1, none⟩ _ gt (blk_ne x2 e2 (by decide))).trans x2, x3⟩
def SpanAt (W : World) (b : Nat) (x : S41) : Prop := W.heap[b]? = some (.cells #[.int .i64 x.f0, .int .i64 x.f1, .string x.f2] 41 (0, 0))
theorem SpanAt.cells {W : World} {b : Nat} {x : S41} (h : SpanAt W b x) : W.cell? ⟨b, 0, none⟩ = some (.int .i64 x.f0) ∧ W.cell? ⟨b, 1, none⟩ = some (.int .i64 x.f1) ∧ W.cell? ⟨b, 2, none⟩ = some (.string x.f2) ∧ W.frozen? ⟨b, 0, none⟩ = false ∧ W.frozen? ⟨b, 1, none⟩ = false ∧ W.frozen? ⟨b, 2, none⟩ = false :=
  ⟨(blk_cell h 0).trans rfl, (blk_cell h 1).trans rfl, (blk_cell h 2).trans rfl, blk_frozen h 0, blk_frozen h 1, blk_frozen h 2⟩
theorem SpanAt.set {W : World} {b : Nat} {y : S41} (h : SpanAt W b y) (x : S41) : SpanAt (((W.setCell ⟨b, 0, none⟩ (.int .i64 x.f0)).setCell ⟨b, 1, none⟩ (.int .i64 x.f1)).setCell ⟨b, 2, none⟩ (.string x.f2)) b x :=
  blk_put (blk_put (blk_put h 0 _ rfl) 1 _ rfl) 2 _ rfl
theorem SpanAt.far {W : World} {b k j : Nat} {v : Value} {x : S41} (h : SpanAt W b x) (hne : b ≠ k) : SpanAt (W.setCell ⟨k, j, none⟩ v) b x := (Below.heap_setCell W ⟨k, j, none⟩ v b hne).trans h
theorem take_end {w0 w W : World} {n₀ g gl gt gt' c cB b : Nat} {A B : Option Addr} {l' : List S41} {t' : List Int} (hB : Below n₀ w0 W) (hz : w.heap.size ≤ W.heap.size) (ho : ∀ k, k < w.heap.size → k ≠ g → k ≠ gl → W.heap[k]? = w.heap[k]?) (R : Rd W n₀ g gl gt' A c B cB l' t') (ht : 0 < t'.length → gt' = gt ∨ w.heap.size ≤ gt')
    (hw : n₀ ≤ w.heap.size) (hb : w.heap.size ≤ b) (hgl : g < w.heap.size) (hrow : 0 < l'.length → gl < w.heap.size) (hne : 0 < t'.length → gt' ≠ b)
    (x : S41) : TakeP w0 w n₀ g gl gt l' t' (((W.setCell ⟨b, 0, none⟩ (.int .i64 x.f0)).setCell ⟨b, 1, none⟩ (.int .i64 x.f1)).setCell ⟨b, 2, none⟩ (.string x.f2)) := by
  have hk : ∀ k, k ≠ b → (((W.setCell ⟨b, 0, none⟩ (.int .i64 x.f0)).setCell ⟨b, 1, none⟩ (.int .i64 x.f1)).setCell ⟨b, 2, none⟩ (.string x.f2)).heap[k]? = W.heap[k]? := fun k hk =>
    (Below.heap_setCell _ ⟨b, 2, none⟩ _ k hk).trans ((Below.heap_setCell _ ⟨b, 1, none⟩ _ k hk).trans (Below.heap_setCell _ ⟨b, 0, none⟩ _ k hk))
  have hz2 : (((W.setCell ⟨b, 0, none⟩ (.int .i64 x.f0)).setCell ⟨b, 1, none⟩ (.int .i64 x.f1)).setCell ⟨b, 2, none⟩ (.string x.f2)).heap.size = W.heap.size := by simp [World.setCell]
  exact ⟨((hB.setCell (p := ⟨b, 0, none⟩) (by show n₀ ≤ b; omega) _).setCell (p := ⟨b, 1, none⟩) (by show n₀ ≤ b; omega) _).setCell (p := ⟨b, 2, none⟩) (by show n₀ ≤ b; omega) _, by rw [hz2]; exact hz, fun k hk1 hk2 hk3 => (hk k (by omega)).trans (ho k hk1 hk2 hk3), gt', c, cB, A, B, R.keep (hk g (by omega)) (fun hp => hk gl (by have := hrow hp; omega)) (fun hp => hk gt' (hne hp)), ht⟩
theorem TakeP.drew {w0 w W : World} {n₀ g gl gt : Nat} {l' : List S41} {t' : List Int} (h : TakeP w0 w n₀ g gl gt l' t' W) : TakeP w0 w n₀ g gl gt l' t' W.drew := by
  obtain ⟨gt', c, cB, A, B, R, ht⟩ := h.r
  exact ⟨below_drew1 h.b, h.z, h.o, gt', c, cB, A, B, R.drew, ht⟩
theorem RowAt.drew {W : World} {A : Option Addr} {gl : Nat} {l : List S41} (h : RowAt W A gl l) : RowAt W.drew A gl l := fun hp => by
  obtain ⟨o, cur, e1, e2, e3⟩ := h hp
  exact ⟨o, cur, e1, blk_drew e2, e3⟩
theorem Rd.tail {W : World} {n₀ g gl gt c cB : Nat} {A B : Option Addr} {s : S41} {r : List S41} {t : List Int} (h : Rd W n₀ g gl gt A c B cB (s :: r) t) : RowAt (W.setCell ⟨g, 0, none⟩ (.slice (if c = 1 then A else A.map (·.add (1 * 3))) r.length (c - 1))) (if c = 1 then A else A.map (·.add (1 * 3))) gl r := fun hp => by
  obtain ⟨o, cur, e1, e2, e3⟩ := row_tail h.row h.lc hp
  exact ⟨o, cur, e1, (Below.heap_setCell W ⟨g, 0, none⟩ _ gl (blk_ne e2 h.blk (by decide))).trans e2, e3⟩
set_option maxRecDepth 100000 in
set_option maxHeartbeats 40000000 in
theorem reader_take_put (n₀ g gl gt c cB : Nat) (A B : Option Addr) (s : S41) (r : List S41) (t : List Int) (n : Int) (w0 w : World) (hn₀ : n₀ = w0.heap.size) (hB : Below n₀ w0 w)
    (h : Rd w n₀ g gl gt A c B cB (s :: r) t) (hk : s.f0 = 2) (hn0 : 0 ≤ n) (hn1 : n ≤ (t.length : Int)) (x : S41) (l' : List S41) (t' : List Int) (hT : takeR (s :: r) t n = some (x, l', t')) :
    Calls Tryd.prog 70 #[.pointer (some ⟨g, 0, none⟩), .int .i64 n] w fun e w' => e = .returned (.agg #[.int .i64 x.f0, .int .i64 x.f1, .string x.f2]) ∧ TakeP w0 w n₀ g gl gt l' t' w' := by
  subst hn₀
  obtain ⟨m, rfl⟩ : ∃ m : Nat, n = (m : Int) := ⟨n.toNat, by omega⟩
  have hm : m ≤ t.length := by omega
  have H := Aside0.mk h
  have HB := Aside0.mk hB
  have HT : Aside0 ((if sizeR (s :: r) (t.drop m) = 0 then (loadR r).bind fun t2 => some ((⟨2, 0, runesBytes (t.take m)⟩ : S41), r, t2) else some (⟨2, 0, runesBytes (t.take m)⟩, s :: r, t.drop m)) = some (x, l', t')) := ⟨by
    rw [takeR, if_pos hk, if_pos ⟨hn0, hn1⟩, Int.toNat_natCast] at hT
    exact hT⟩
  obtain ⟨off, rfl, h0, h1, h2, hf⟩ := h.head
  have hb1 : Below w.heap.size w (w.alloc (.cells #[.int .i64 0, .int .i64 0, .string ⟨#[]⟩] 41)) := below_alloc (Below.refl _ _) _
  have R1 := h.below hb1
  have c0 := (blk_cell R1.blk 0).trans (show _ = some (Value.slice (some ⟨gl, off, none⟩) (s :: r).length c) from rfl)
  obtain ⟨off', e1, q0, q1, q2, qf⟩ := R1.head
  obtain rfl : off = off' := by simpa using e1
  have d2 : (s.f0 == 2) = true := by simp [hk]
  have hb2 := Aside0.mk (below_alloc hb1 (.cells #[.int .i64 s.f0, .int .i64 0, .string ⟨#[]⟩] 41))
  have B4 : Aside0 (((w.alloc (.cells #[.int .i64 0, .int .i64 0, .string ⟨#[]⟩] 41)).alloc (.cells #[.int .i64 s.f0, .int .i64 0, .string ⟨#[]⟩] 41)).heap[w.heap.size]? = some (.cells #[.int .i64 0, .int .i64 0, .string ⟨#[]⟩] 41 (0, 0))) := ⟨blk_alloc (blk_new w _) _⟩
  have B5 : Aside0 (((w.alloc (.cells #[.int .i64 0, .int .i64 0, .string ⟨#[]⟩] 41)).alloc (.cells #[.int .i64 s.f0, .int .i64 0, .string ⟨#[]⟩] 41)).heap[w.heap.size + 1]? = some (.cells #[.int .i64 s.f0, .int .i64 0, .string ⟨#[]⟩] 41 (0, 0))) := ⟨by
    have := blk_new (w.alloc (.cells #[.int .i64 0, .int .i64 0, .string ⟨#[]⟩] 41)) (.cells #[.int .i64 s.f0, .int .i64 0, .string ⟨#[]⟩] 41)
    rwa [size_alloc] at this⟩
  have HK := Aside0.mk hk
  have HM := Aside0.mk hm
  simp only [List.length_cons] at c0
  have hzz : Aside0 (((w.alloc (.cells #[.int .i64 0, .int .i64 0, .string ⟨#[]⟩] 41)).alloc (.cells #[.int .i64 s.f0, .int .i64 0, .string ⟨#[]⟩] 41)).heap.size = w.heap.size + 1 + 1) := ⟨by rw [size_alloc, size_alloc]⟩
  clear h hB hT h0 h1 h2 hf hb1 R1 e1 hk hm hn0 hn1
  go_enter Tryd.func70, Tryd.ntmps70
  go_wp2
  obtain ⟨W2, hW2⟩ : ∃ W2, (w.alloc (.cells #[.int .i64 0, .int .i64 0, .string ⟨#[]⟩] 41)).alloc (.cells #[.int .i64 s.f0, .int .i64 0, .string ⟨#[]⟩] 41) = W2 := ⟨_, rfl⟩
  rw [hW2] at hb2 B4 B5 hzz ⊢
  clear hW2 c0 q0 q1 q2 qf
  have R2 := Aside0.mk (H.out.below hb2.out)
  have c0 := (blk_cell R2.out.blk 0).trans (show _ = some (Value.slice (some ⟨gl, off, none⟩) (s :: r).length c) from rfl)
  have c1 := (blk_cell R2.out.blk 1).trans (show _ = some (Value.slice B t.length cB) from rfl)
  have f1 := blk_frozen R2.out.blk 1
  have k2 := (blk_cell B5.out 2).trans (show _ = some (Value.string ⟨#[]⟩) from rfl)
  have kf := blk_frozen B5.out 2
  have hcv : (convert 69 9 (.slice B m cB)).run Tryd.prog W2.drew = _ := conv_take (W := W2.drew) (t := t) (gt := gt) (fun hp => by obtain ⟨o, cur, x1, x2, x3⟩ := R2.out.txt hp; exact ⟨o, cur, x1, blk_drew x2, x3⟩) R2.out.tc R2.out.tm HM.out
  obtain ⟨i0, hi0, _, hsz0, _⟩ := info_parts info21
  have hct := cut_to (P := Tryd.prog) 69 21 .i64 Tryd.underlying69 hi0 B t.length cB (m : Int) (by omega) (by have := HM.out; omega) R2.out.tc
  have hcf := cut_from (P := Tryd.prog) 69 21 .i64 Tryd.underlying69 hi0 1 hsz0 B t.length cB (m : Int) (by omega) (by have := HM.out; omega)
  rw [Int.toNat_natCast] at hct hcf
  obtain ⟨B', hB'⟩ : ∃ B', (if cB = m then B else B.map (·.add (m * 1))) = B' := ⟨_, rfl⟩
  rw [hB'] at hcf
  have HBB := Aside0.mk hB'
  obtain ⟨str, hstr⟩ : ∃ str, runesBytes (t.take m) = str := ⟨_, rfl⟩
  rw [hstr] at hcv
  have HSTR := Aside0.mk hstr
  clear hB' hi0 hsz0 hstr
  go_region
  have hgw := Aside0.mk H.out.lt
  have hlen : (t.drop m).length = t.length - m := List.length_drop
  have RS : Aside0 (Rd (((W2.setCell ⟨w.heap.size + 1, 2, none⟩ (.string str)).setCell ⟨g, 1, none⟩ (.slice B' (t.length - m) (cB - m))).drew) w0.heap.size g gl gt (some ⟨gl, off, none⟩) c B' (cB - m) (s :: r) (t.drop m)) := ⟨by
    have h1 := R2.out.far (w.heap.size + 1) 2 (.string str) (by have := hgw.out.1; omega) (fun hp => by have := hgw.out.2.1 hp; omega) (fun hp => by have := hgw.out.2.2 hp; omega)
    have h2 := txt_drop (m := m) h1.txt h1.tc HM.out
    rw [HBB.out] at h2
    have h3 := h1.setText (t' := t.drop m) (cB' := cB - m) (by have := h1.tc; omega) (by have := h1.tm; omega) h2
    rw [hlen] at h3
    exact h3.drew⟩
  have S5 : Aside0 (SpanAt (((W2.setCell ⟨w.heap.size + 1, 2, none⟩ (.string str)).setCell ⟨g, 1, none⟩ (.slice B' (t.length - m) (cB - m))).drew) (w.heap.size + 1) ⟨2, 0, str⟩) := ⟨by
    have := blk_drew ((Below.heap_setCell (W2.setCell ⟨w.heap.size + 1, 2, none⟩ (.string str)) ⟨g, 1, none⟩ (.slice B' (t.length - m) (cB - m)) (w.heap.size + 1) (by have := hgw.out.1; show w.heap.size + 1 ≠ g; omega)).trans (blk_put B5.out 2 (.string str) rfl))
    rw [HK.out] at this
    exact this⟩
  have S4 : Aside0 (SpanAt (((W2.setCell ⟨w.heap.size + 1, 2, none⟩ (.string str)).setCell ⟨g, 1, none⟩ (.slice B' (t.length - m) (cB - m))).drew) w.heap.size ⟨0, 0, ⟨#[]⟩⟩) := ⟨blk_drew ((Below.heap_setCell (W2.setCell ⟨w.heap.size + 1, 2, none⟩ (.string str)) ⟨g, 1, none⟩ (.slice B' (t.length - m) (cB - m)) w.heap.size (by have := hgw.out.1; show w.heap.size ≠ g; omega)).trans ((Below.heap_setCell W2 ⟨w.heap.size + 1, 2, none⟩ (.string str) w.heap.size (by show w.heap.size ≠ w.heap.size + 1; omega)).trans B4.out))⟩
  have HO : Aside0 (∀ k, k < w.heap.size → k ≠ g → (((W2.setCell ⟨w.heap.size + 1, 2, none⟩ (.string str)).setCell ⟨g, 1, none⟩ (.slice B' (t.length - m) (cB - m))).drew).heap[k]? = w.heap[k]?) := ⟨fun k hk hkg => (Below.heap_setCell _ ⟨g, 1, none⟩ _ k hkg).trans ((Below.heap_setCell W2 ⟨w.heap.size + 1, 2, none⟩ _ k (by show k ≠ w.heap.size + 1; omega)).trans (hb2.out.block k hk))⟩
  have HB3 : Aside0 (Below w0.heap.size w0 (((W2.setCell ⟨w.heap.size + 1, 2, none⟩ (.string str)).setCell ⟨g, 1, none⟩ (.slice B' (t.length - m) (cB - m))).drew)) := ⟨by
    have hw : w0.heap.size ≤ w.heap.size := by exact HB.out.size
    exact below_drew1 ((((HB.out).trans (hb2.out.mono hw)).setCell (p := ⟨w.heap.size + 1, 2, none⟩) (by show w0.heap.size ≤ w.heap.size + 1; omega) _).setCell (p := ⟨g, 1, none⟩) H.out.hg _)⟩
  have hz3 : Aside0 ((((W2.setCell ⟨w.heap.size + 1, 2, none⟩ (.string str)).setCell ⟨g, 1, none⟩ (.slice B' (t.length - m) (cB - m))).drew).heap.size = w.heap.size + 1 + 1) := ⟨by have := hzz.out; simpa [World.setCell, World.drew] using this⟩
  obtain ⟨W3, hW3⟩ : ∃ W3, ((W2.setCell ⟨w.heap.size + 1, 2, none⟩ (.string str)).setCell ⟨g, 1, none⟩ (.slice B' (t.length - m) (cB - m))).drew = W3 := ⟨_, rfl⟩
  rw [hW3] at RS S5 S4 HO HB3 hz3 ⊢
  clear hW3 c0 c1 f1 k2 kf hcv hct hcf hlen
  have hgl := hgw.out.1
  have hw := HB.out.size
  obtain ⟨k0, k1, k2, kf0, kf1, kf2⟩ := S5.out.cells
  obtain ⟨j0, j1, j2, jf0, jf1, jf2⟩ := S4.out.cells
  have S4d : Aside0 (SpanAt W3.drew w.heap.size ⟨0, 0, ⟨#[]⟩⟩) := ⟨blk_drew S4.out⟩
  by_cases hz : sizeR (s :: r) (t.drop m) = 0
  · have d3 : (sizeR (s :: r) (t.drop m) == 0) = true := by simp [hz]
    have HTT := HT.out
    rw [if_pos hz] at HTT
    obtain ⟨t2, ht2, he⟩ := Option.bind_eq_some_iff.1 HTT
    obtain ⟨rfl, rfl, rfl⟩ : (⟨2, 0, runesBytes (t.take m)⟩ : S41) = x ∧ r = l' ∧ t2 = t' := by simpa using he
    have e0 := (blk_cell RS.out.blk 0).trans (show _ = some (Value.slice (some ⟨gl, off, none⟩) (s :: r).length c) from rfl)
    have ef := blk_frozen RS.out.blk 0
    obtain ⟨i1, hi1, _, hsz1, _⟩ := info_parts info41
    have hcr := cut_from (P := Tryd.prog) 24 41 .i64 Tryd.underlying24 hi1 3 hsz1 (some ⟨gl, off, none⟩) (s :: r).length c 1 (by omega) (by rw [List.length_cons]; omega)
    rw [show ((1 : Int).toNat) = 1 from rfl, show (s :: r).length - 1 = r.length from rfl] at hcr
    have RT := Aside0.mk RS.out.tail.drew
    have BKT : Aside0 ((W3.setCell ⟨g, 0, none⟩ (.slice (if c = 1 then (some ⟨gl, off, none⟩ : Option Addr) else (some ⟨gl, off, none⟩ : Option Addr).map (·.add (1 * 3))) r.length (c - 1))).drew.heap[g]? = some (.cells #[.slice (if c = 1 then (some ⟨gl, off, none⟩ : Option Addr) else (some ⟨gl, off, none⟩ : Option Addr).map (·.add (1 * 3))) r.length (c - 1), .slice B' (t.drop m).length (cB - m)] 96 (0, 0))) := ⟨blk_drew (blk_put RS.out.blk 0 _ rfl)⟩
    obtain ⟨A2, hA2⟩ : ∃ A2, (if c = 1 then (some ⟨gl, off, none⟩ : Option Addr) else (some ⟨gl, off, none⟩ : Option Addr).map (·.add (1 * 3))) = A2 := ⟨_, rfl⟩
    rw [hA2] at hcr RT BKT
    have HBT := Aside0.mk (below_drew1 (HB3.out.setCell (p := ⟨g, 0, none⟩) H.out.hg (.slice A2 r.length (c - 1))))
    have LCC : Aside0 (r.length ≤ c - 1 ∧ c - 1 ≤ 9223372036854775807) := ⟨by have h1 := RS.out.lc; have h2 := RS.out.lm; rw [List.length_cons] at h1; omega⟩
    have HLR := Aside0.mk ht2
    have HGG := Aside0.mk H.out.hg
    have HLL : Aside0 (0 < r.length → w0.heap.size ≤ gl) := ⟨fun _ => H.out.hl (by simp)⟩
    have hzT : Aside0 ((W3.setCell ⟨g, 0, none⟩ (.slice A2 r.length (c - 1))).drew.heap.size = w.heap.size + 1 + 1) := ⟨by have := hz3.out; simpa [World.setCell, World.drew] using this⟩
    have S5T : Aside0 (SpanAt (W3.setCell ⟨g, 0, none⟩ (.slice A2 r.length (c - 1))).drew (w.heap.size + 1) ⟨2, 0, str⟩) := ⟨blk_drew (S5.out.far (by omega))⟩
    have S4T : Aside0 (SpanAt (W3.setCell ⟨g, 0, none⟩ (.slice A2 r.length (c - 1))).drew w.heap.size ⟨0, 0, ⟨#[]⟩⟩) := ⟨blk_drew (S4.out.far (by omega))⟩
    have HOT : Aside0 (∀ k, k < w.heap.size → k ≠ g → (W3.setCell ⟨g, 0, none⟩ (.slice A2 r.length (c - 1))).drew.heap[k]? = w.heap[k]?) := ⟨fun k hk hkg => (Below.heap_setCell W3 ⟨g, 0, none⟩ _ k hkg).trans (HO.out k hk hkg)⟩
    rw [List.length_cons] at hcr e0
    clear HTT hz hA2 he hi1 hsz1 ht2
    go_wp2_with (first | (go_at_call 71; (with_reducible refine (reader_size.calls w0.heap.size g gl gt c _ _ _ (s :: r) (t.drop m) _ RS.out (Nat.succ_pos _)).mono ?_); rintro e W4 ⟨rfl, rfl⟩) | (go_at_call 84; (with_reducible refine (reader_load.calls w0.heap.size g gl (c - 1) A2 _ r t2 w0 _ rfl HBT.out BKT.out LCC.out.1 LCC.out.2 RT.out HGG.out HLL.out HLR.out).mono ?_); rintro e W5 ⟨rfl, gt', cB5, B5', R5, hB5, hO5, hgt5⟩; have S5U : Aside0 (SpanAt W5 (w.heap.size + 1) ⟨2, 0, str⟩) := ⟨(hO5 _ (by have := hzT.out; omega) (by omega)).trans S5T.out⟩; have S4U : Aside0 (SpanAt W5 w.heap.size ⟨0, 0, ⟨#[]⟩⟩) := ⟨(hO5 _ (by have := hzT.out; omega) (by omega)).trans S4T.out⟩; obtain ⟨u0, u1, u2, uf0, uf1, uf2⟩ := S5U.out.cells; obtain ⟨v0, v1, v2, vf0, vf1, vf2⟩ := S4U.out.cells; have RR5 := Aside0.mk R5; have HB5 := Aside0.mk hB5; have HO5 := Aside0.mk hO5; have HG5 := Aside0.mk hgt5; clear R5 hB5 hO5 hgt5))
    have SF := (SpanAt.set S4U.out (⟨2, 0, str⟩ : S41))
    obtain ⟨m0, m1, m2, _, _, _⟩ := SF.cells
    have FIN := take_end (w := w) (gt := gt) HB5.out (by have := hzT.out; have := RR5.out.lt; have := HB5.out; have h9 := blk_lt S4U.out; omega) (fun k hk hk2 _ => (HO5.out k (by have := hzT.out; omega) hk2).trans (HOT.out k hk hk2)) RR5.out (fun hp => .inr (by have := HG5.out hp; have := hzT.out; omega)) hw (Nat.le_refl _) hgl (fun hp => hgw.out.2.1 (by simp)) (fun hp => by have := HG5.out hp; have := hzT.out; omega) (⟨2, 0, str⟩ : S41)
    exact bodyPost_ret (v := .agg #[.int .i64 2, .int .i64 0, .string str]) (by simp [results, Tryd.results70, Tryd.f70, go_sem, m0, m1, m2]) rfl ⟨by rw [HSTR.out], FIN⟩
  · have d3 : (sizeR (s :: r) (t.drop m) == 0) = false := by simp [hz]
    have HTT := HT.out
    rw [if_neg hz] at HTT
    obtain ⟨rfl, rfl, rfl⟩ : (⟨2, 0, runesBytes (t.take m)⟩ : S41) = x ∧ s :: r = l' ∧ t.drop m = t' := by simpa using HTT
    have FIN := Aside0.mk (take_end (w := w) HB3.out (by show w.heap.size ≤ W3.heap.size; have := hz3.out; omega) (fun k hk hk2 _ => HO.out k hk hk2) RS.out (fun _ => .inl rfl) (by omega) (Nat.le_refl _) hgl (fun hp => hgw.out.2.1 (by simp)) (fun hp => by have := hgw.out.2.2 (by rw [List.length_drop] at hp; omega); omega) (⟨2, 0, str⟩ : S41))
    clear HTT hz
    go_wp2_with (go_at_call 71; (with_reducible refine (reader_size.calls w0.heap.size g gl gt c _ _ _ (s :: r) (t.drop m) _ RS.out (Nat.succ_pos _)).mono ?_); rintro e W4 ⟨rfl, rfl⟩)
    have SF := (SpanAt.set S4.out (⟨2, 0, str⟩ : S41))
    obtain ⟨m0, m1, m2, _, _, _⟩ := SF.cells
    exact bodyPost_ret (v := .agg #[.int .i64 2, .int .i64 0, .string str]) (by simp [results, Tryd.results70, Tryd.f70, go_sem, m0, m1, m2]) rfl ⟨by rw [HSTR.out], FIN.out.drew⟩
set_option maxRecDepth 100000 in
set_option maxHeartbeats 40000000 in
theorem reader_take_cut (n₀ g gl gt c cB : Nat) (A B : Option Addr) (s : S41) (r : List S41) (t : List Int) (n : Int) (w0 w : World) (hn₀ : n₀ = w0.heap.size) (hB : Below n₀ w0 w)
    (h : Rd w n₀ g gl gt A c B cB (s :: r) t) (hk : ¬ s.f0 = 2) (x : S41) (l' : List S41) (t' : List Int) (hT : takeR (s :: r) t n = some (x, l', t')) :
    Calls Tryd.prog 70 #[.pointer (some ⟨g, 0, none⟩), .int .i64 n] w fun e w' => e = .returned (.agg #[.int .i64 x.f0, .int .i64 x.f1, .string x.f2]) ∧ TakeP w0 w n₀ g gl gt l' t' w' := by
  subst hn₀
  have H := Aside0.mk h
  have HB := Aside0.mk hB
  have HT : Aside0 ((if sizeR (⟨s.f0, wrap64 (s.f1 - n), s.f2⟩ :: r) t = 0 then (loadR r).bind fun t2 => some ((⟨s.f0, n, ⟨#[]⟩⟩ : S41), r, t2) else some (⟨s.f0, n, ⟨#[]⟩⟩, ⟨s.f0, wrap64 (s.f1 - n), s.f2⟩ :: r, t)) = some (x, l', t')) := ⟨by
    rw [takeR, if_neg hk] at hT
    exact hT⟩
  obtain ⟨off, rfl, h0, h1, h2, hf⟩ := h.head
  have hb1 : Below w.heap.size w (w.alloc (.cells #[.int .i64 0, .int .i64 0, .string ⟨#[]⟩] 41)) := below_alloc (Below.refl _ _) _
  have R1 := h.below hb1
  have c0 := (blk_cell R1.blk 0).trans (show _ = some (Value.slice (some ⟨gl, off, none⟩) (s :: r).length c) from rfl)
  obtain ⟨off', e1, q0, q1, q2, qf⟩ := R1.head
  obtain rfl : off = off' := by simpa using e1
  have d2 : (s.f0 == 2) = false := by simp [hk]
  have hb2 := Aside0.mk (below_alloc hb1 (.cells #[.int .i64 s.f0, .int .i64 n, .string ⟨#[]⟩] 41))
  have B4 : Aside0 (((w.alloc (.cells #[.int .i64 0, .int .i64 0, .string ⟨#[]⟩] 41)).alloc (.cells #[.int .i64 s.f0, .int .i64 n, .string ⟨#[]⟩] 41)).heap[w.heap.size]? = some (.cells #[.int .i64 0, .int .i64 0, .string ⟨#[]⟩] 41 (0, 0))) := ⟨blk_alloc (blk_new w _) _⟩
  have B5 : Aside0 (((w.alloc (.cells #[.int .i64 0, .int .i64 0, .string ⟨#[]⟩] 41)).alloc (.cells #[.int .i64 s.f0, .int .i64 n, .string ⟨#[]⟩] 41)).heap[w.heap.size + 1]? = some (.cells #[.int .i64 s.f0, .int .i64 n, .string ⟨#[]⟩] 41 (0, 0))) := ⟨by
    have := blk_new (w.alloc (.cells #[.int .i64 0, .int .i64 0, .string ⟨#[]⟩] 41)) (.cells #[.int .i64 s.f0, .int .i64 n, .string ⟨#[]⟩] 41)
    rwa [size_alloc] at this⟩
  simp only [List.length_cons] at c0
  have hzz : Aside0 (((w.alloc (.cells #[.int .i64 0, .int .i64 0, .string ⟨#[]⟩] 41)).alloc (.cells #[.int .i64 s.f0, .int .i64 n, .string ⟨#[]⟩] 41)).heap.size = w.heap.size + 1 + 1) := ⟨by rw [size_alloc, size_alloc]⟩
  clear h hB hT h0 h1 h2 hf hb1 R1 e1 hk
  have R2 := Aside0.mk (H.out.below hb2.out)
  have hgw := Aside0.mk H.out.lt
  have c3 := (blk_cell R2.out.blk 0).trans (show _ = some (Value.slice (some ⟨gl, off, none⟩) (s :: r).length c) from rfl)
  obtain ⟨off', e1, p0, p1, p2, pf⟩ := R2.out.head
  obtain rfl : off = off' := by simpa using e1
  rw [List.length_cons] at c3
  have RS := Aside0.mk (R2.out.setN (wrap64 (s.f1 - n)))
  have S5 : Aside0 (SpanAt (((w.alloc (.cells #[.int .i64 0, .int .i64 0, .string ⟨#[]⟩] 41)).alloc (.cells #[.int .i64 s.f0, .int .i64 n, .string ⟨#[]⟩] 41)).setCell ⟨gl, off + 1, none⟩ (.int .i64 (wrap64 (s.f1 - n)))) (w.heap.size + 1) ⟨s.f0, n, ⟨#[]⟩⟩) := ⟨(Below.heap_setCell _ ⟨gl, off + 1, none⟩ _ (w.heap.size + 1) (by have := hgw.out.2.1 (by simp); show w.heap.size + 1 ≠ gl; omega)).trans B5.out⟩
  have S4 : Aside0 (SpanAt (((w.alloc (.cells #[.int .i64 0, .int .i64 0, .string ⟨#[]⟩] 41)).alloc (.cells #[.int .i64 s.f0, .int .i64 n, .string ⟨#[]⟩] 41)).setCell ⟨gl, off + 1, none⟩ (.int .i64 (wrap64 (s.f1 - n)))) w.heap.size ⟨0, 0, ⟨#[]⟩⟩) := ⟨(Below.heap_setCell _ ⟨gl, off + 1, none⟩ _ w.heap.size (by have := hgw.out.2.1 (by simp); show w.heap.size ≠ gl; omega)).trans B4.out⟩
  have HO : Aside0 (∀ k, k < w.heap.size → k ≠ g → k ≠ gl → (((w.alloc (.cells #[.int .i64 0, .int .i64 0, .string ⟨#[]⟩] 41)).alloc (.cells #[.int .i64 s.f0, .int .i64 n, .string ⟨#[]⟩] 41)).setCell ⟨gl, off + 1, none⟩ (.int .i64 (wrap64 (s.f1 - n)))).heap[k]? = w.heap[k]?) := ⟨fun k hk _ hkl => (Below.heap_setCell _ ⟨gl, off + 1, none⟩ _ k hkl).trans (hb2.out.block k hk)⟩
  have HB3 : Aside0 (Below w0.heap.size w0 (((w.alloc (.cells #[.int .i64 0, .int .i64 0, .string ⟨#[]⟩] 41)).alloc (.cells #[.int .i64 s.f0, .int .i64 n, .string ⟨#[]⟩] 41)).setCell ⟨gl, off + 1, none⟩ (.int .i64 (wrap64 (s.f1 - n))))) := ⟨by
    have hw : w0.heap.size ≤ w.heap.size := HB.out.size
    exact ((HB.out).trans (hb2.out.mono hw)).setCell (p := ⟨gl, off + 1, none⟩) (H.out.hl (by simp)) _⟩
  have hz3 : Aside0 ((((w.alloc (.cells #[.int .i64 0, .int .i64 0, .string ⟨#[]⟩] 41)).alloc (.cells #[.int .i64 s.f0, .int .i64 n, .string ⟨#[]⟩] 41)).setCell ⟨gl, off + 1, none⟩ (.int .i64 (wrap64 (s.f1 - n)))).heap.size = w.heap.size + 1 + 1) := ⟨by have := hzz.out; simp [World.setCell]⟩
  clear e1
  go_enter Tryd.func70, Tryd.ntmps70
  go_wp2_with (go_at_call 71; fail)
  obtain ⟨W3, hW3⟩ : ∃ W3, ((w.alloc (.cells #[.int .i64 0, .int .i64 0, .string ⟨#[]⟩] 41)).alloc (.cells #[.int .i64 s.f0, .int .i64 n, .string ⟨#[]⟩] 41)).setCell ⟨gl, off + 1, none⟩ (.int .i64 (wrap64 (s.f1 - n))) = W3 := ⟨_, rfl⟩
  rw [hW3] at RS S5 S4 HO HB3 hz3 ⊢
  clear hW3 c0 c3 p0 p1 p2 pf q0 q1 q2 qf
  have hgl := hgw.out.1
  have hw := HB.out.size
  obtain ⟨k0, k1, k2, kf0, kf1, kf2⟩ := S5.out.cells
  obtain ⟨j0, j1, j2, jf0, jf1, jf2⟩ := S4.out.cells
  have S4d : Aside0 (SpanAt W3.drew w.heap.size ⟨0, 0, ⟨#[]⟩⟩) := ⟨blk_drew S4.out⟩
  by_cases hz : sizeR (⟨s.f0, wrap64 (s.f1 - n), s.f2⟩ :: r) t = 0
  · have d3 : (sizeR (⟨s.f0, wrap64 (s.f1 - n), s.f2⟩ :: r) t == 0) = true := by simp [hz]
    have HTT := HT.out
    rw [if_pos hz] at HTT
    obtain ⟨t2, ht2, he⟩ := Option.bind_eq_some_iff.1 HTT
    obtain ⟨rfl, rfl, rfl⟩ : (⟨s.f0, n, ⟨#[]⟩⟩ : S41) = x ∧ r = l' ∧ t2 = t' := by simpa using he
    have e0 := (blk_cell RS.out.blk 0).trans (show _ = some (Value.slice (some ⟨gl, off, none⟩) (r.length + 1) c) from rfl)
    have ef := blk_frozen RS.out.blk 0
    obtain ⟨i1, hi1, _, hsz1, _⟩ := info_parts info41
    have hcr := cut_from (P := Tryd.prog) 24 41 .i64 Tryd.underlying24 hi1 3 hsz1 (some ⟨gl, off, none⟩) (r.length + 1) c 1 (by omega) (by omega)
    rw [show ((1 : Int).toNat) = 1 from rfl, show (r.length + 1) - 1 = r.length from rfl] at hcr
    have RT := Aside0.mk RS.out.tail.drew
    have BKT : Aside0 ((W3.setCell ⟨g, 0, none⟩ (.slice (if c = 1 then (some ⟨gl, off, none⟩ : Option Addr) else (some ⟨gl, off, none⟩ : Option Addr).map (·.add (1 * 3))) r.length (c - 1))).drew.heap[g]? = some (.cells #[.slice (if c = 1 then (some ⟨gl, off, none⟩ : Option Addr) else (some ⟨gl, off, none⟩ : Option Addr).map (·.add (1 * 3))) r.length (c - 1), .slice B t.length cB] 96 (0, 0))) := ⟨blk_drew (blk_put RS.out.blk 0 _ rfl)⟩
    obtain ⟨A2, hA2⟩ : ∃ A2, (if c = 1 then (some ⟨gl, off, none⟩ : Option Addr) else (some ⟨gl, off, none⟩ : Option Addr).map (·.add (1 * 3))) = A2 := ⟨_, rfl⟩
    rw [hA2] at hcr RT BKT
    have HBT := Aside0.mk (below_drew1 (HB3.out.setCell (p := ⟨g, 0, none⟩) H.out.hg (.slice A2 r.length (c - 1))))
    have LCC : Aside0 (r.length ≤ c - 1 ∧ c - 1 ≤ 9223372036854775807) := ⟨by have h1 := RS.out.lc; have h2 := RS.out.lm; rw [List.length_cons] at h1; omega⟩
    have HLR := Aside0.mk ht2
    have HGG := Aside0.mk H.out.hg
    have HLL : Aside0 (0 < r.length → w0.heap.size ≤ gl) := ⟨fun _ => H.out.hl (by simp)⟩
    have hzT : Aside0 ((W3.setCell ⟨g, 0, none⟩ (.slice A2 r.length (c - 1))).drew.heap.size = w.heap.size + 1 + 1) := ⟨by have := hz3.out; simpa [World.setCell, World.drew] using this⟩
    have S5T : Aside0 (SpanAt (W3.setCell ⟨g, 0, none⟩ (.slice A2 r.length (c - 1))).drew (w.heap.size + 1) ⟨s.f0, n, ⟨#[]⟩⟩) := ⟨blk_drew (S5.out.far (by omega))⟩
    have S4T : Aside0 (SpanAt (W3.setCell ⟨g, 0, none⟩ (.slice A2 r.length (c - 1))).drew w.heap.size ⟨0, 0, ⟨#[]⟩⟩) := ⟨blk_drew (S4.out.far (by omega))⟩
    have HOT : Aside0 (∀ k, k < w.heap.size → k ≠ g → k ≠ gl → (W3.setCell ⟨g, 0, none⟩ (.slice A2 r.length (c - 1))).drew.heap[k]? = w.heap[k]?) := ⟨fun k hk hkg hkl => (Below.heap_setCell W3 ⟨g, 0, none⟩ _ k hkg).trans (HO.out k hk hkg hkl)⟩
    clear HTT hz hA2 he hi1 hsz1 ht2
    go_wp2_with (first | (go_at_call 71; (with_reducible refine (reader_size.calls w0.heap.size g gl gt c _ _ _ (⟨s.f0, wrap64 (s.f1 - n), s.f2⟩ :: r) t _ RS.out (Nat.succ_pos _)).mono ?_); rintro e W4 ⟨rfl, rfl⟩) | (go_at_call 84; (with_reducible refine (reader_load.calls w0.heap.size g gl (c - 1) A2 _ r t2 w0 _ rfl HBT.out BKT.out LCC.out.1 LCC.out.2 RT.out HGG.out HLL.out HLR.out).mono ?_); rintro e W5 ⟨rfl, gt', cB5, B5', R5, hB5, hO5, hgt5⟩; have S5U : Aside0 (SpanAt W5 (w.heap.size + 1) ⟨s.f0, n, ⟨#[]⟩⟩) := ⟨(hO5 _ (by have := hzT.out; omega) (by omega)).trans S5T.out⟩; have S4U : Aside0 (SpanAt W5 w.heap.size ⟨0, 0, ⟨#[]⟩⟩) := ⟨(hO5 _ (by have := hzT.out; omega) (by omega)).trans S4T.out⟩; obtain ⟨u0, u1, u2, uf0, uf1, uf2⟩ := S5U.out.cells; obtain ⟨v0, v1, v2, vf0, vf1, vf2⟩ := S4U.out.cells; have RR5 := Aside0.mk R5; have HB5 := Aside0.mk hB5; have HO5 := Aside0.mk hO5; have HG5 := Aside0.mk hgt5; clear R5 hB5 hO5 hgt5))
    have SF := (SpanAt.set S4U.out (⟨s.f0, n, ⟨#[]⟩⟩ : S41))
    obtain ⟨m0, m1, m2, _, _, _⟩ := SF.cells
    have FIN := take_end (w := w) (gt := gt) HB5.out (by have := hzT.out; have := RR5.out.lt; have := HB5.out; have h9 := blk_lt S4U.out; omega) (fun k hk hk2 hk3 => (HO5.out k (by have := hzT.out; omega) hk2).trans (HOT.out k hk hk2 hk3)) RR5.out (fun hp => .inr (by have := HG5.out hp; have := hzT.out; omega)) hw (Nat.le_refl _) hgl (fun hp => hgw.out.2.1 (by simp)) (fun hp => by have := HG5.out hp; have := hzT.out; omega) (⟨s.f0, n, ⟨#[]⟩⟩ : S41)
    exact bodyPost_ret (v := .agg #[.int .i64 s.f0, .int .i64 n, .string ⟨#[]⟩]) (by simp [results, Tryd.results70, Tryd.f70, go_sem, m0, m1, m2]) rfl ⟨rfl, FIN⟩
  · have d3 : (sizeR (⟨s.f0, wrap64 (s.f1 - n), s.f2⟩ :: r) t == 0) = false := by simp [hz]
    have HTT := HT.out
    rw [if_neg hz] at HTT
    obtain ⟨rfl, rfl, rfl⟩ : (⟨s.f0, n, ⟨#[]⟩⟩ : S41) = x ∧ ⟨s.f0, wrap64 (s.f1 - n), s.f2⟩ :: r = l' ∧ t = t' := by simpa using HTT
    have FIN := Aside0.mk (take_end (w := w) HB3.out (by show w.heap.size ≤ W3.heap.size; have := hz3.out; omega) (HO.out) RS.out (fun _ => .inl rfl) (by omega) (Nat.le_refl _) hgl (fun hp => hgw.out.2.1 (by simp)) (fun hp => by have := hgw.out.2.2 hp; omega) (⟨s.f0, n, ⟨#[]⟩⟩ : S41))
    clear HTT hz
    go_wp2_with (go_at_call 71; (with_reducible refine (reader_size.calls w0.heap.size g gl gt c _ _ _ (⟨s.f0, wrap64 (s.f1 - n), s.f2⟩ :: r) t _ RS.out (Nat.succ_pos _)).mono ?_); rintro e W4 ⟨rfl, rfl⟩)
    have SF := (SpanAt.set S4.out (⟨s.f0, n, ⟨#[]⟩⟩ : S41))
    obtain ⟨m0, m1, m2, _, _, _⟩ := SF.cells
    exact bodyPost_ret (v := .agg #[.int .i64 s.f0, .int .i64 n, .string ⟨#[]⟩]) (by simp [results, Tryd.results70, Tryd.f70, go_sem, m0, m1, m2]) rfl ⟨rfl, FIN.out.drew⟩
theorem reader_take.calls (n₀ g gl gt c cB : Nat) (A B : Option Addr) (l : List S41) (t : List Int) (n : Int) (w0 w : World) (hn₀ : n₀ = w0.heap.size) (hB : Below n₀ w0 w)
  (h : Rd w n₀ g gl gt A c B cB l t) (x : S41) (l' : List S41) (t' : List Int) (hT : takeR l t n = some (x, l', t')) :
  Calls Tryd.prog 70 #[.pointer (some ⟨g, 0, none⟩), .int .i64 n] w fun e w' => e = .returned (.agg #[.int .i64 x.f0, .int .i64 x.f1, .string x.f2]) ∧ TakeP w0 w n₀ g gl gt l' t' w' := by
 cases l with
 | nil => cases hT
 | cons s r =>
  by_cases hk : s.f0 = 2
  ·by_cases hn : 0 ≤ n ∧ n ≤ (t.length : Int)
   ·exact reader_take_put n₀ g gl gt c cB A B s r t n w0 w hn₀ hB h hk hn.1 hn.2 x l' t' hT
   ·rw [takeR, if_pos hk, if_neg hn] at hT
    cases hT
  ·exact reader_take_cut n₀ g gl gt c cB A B s r t n w0 w hn₀ hB h hk x l' t' hT
end Go.Proofs.YthhgobiaecehbaaDoor.F
end
section
namespace Go.Proofs.YthhgobiaecehbaaDoor.F
open Go.RowKit Go.Proofs.YthhgobiaecehbaaDoorW.PrintWords Go.Proofs.YthhgobiaecehbaaDoorW.PrintLast Go.Proofs.YthhgobiaecehbaaDoorW.PrintMore
set_option linter.unusedVariables false
set_option linter.unusedSimpArgs false
def compose_Of.f (k : Nat) (l0 : List S41) (l1 : List S41) : Option (List S41 × Int) :=
  (op_May.f k l0).bind fun e0 => if e0 = 0 then (op_May.f k l1).bind fun e1 => if e1 = 0 then (op_Out.f k l0).bind fun n => (op_In.f k l1).bind fun m => if n = m then
    (newR k l0).bind fun x => (newR k l1).bind fun y => (composeL k x.1 x.2 y.1 y.2 []).bind fun out => (normal_Of.f k out).bind fun r => some (r, 0)
  else some ([], 5) else some ([], e1) else some ([], e0)
theorem compose_Of.mono (l0 l1 : List S41) (k : Nat) : LeO (compose_Of.f k l0 l1) (compose_Of.f (k + 1) l0 l1) := by
  unfold compose_Of.f
  refine LeO.bind (op_May.mono _ _) (fun e0 => ?_)
  split
  · refine LeO.bind (op_May.mono _ _) (fun e1 => ?_)
    split
    · refine LeO.bind (op_Out.mono _ _) (fun n => LeO.bind (op_In.mono _ _) (fun m => ?_))
      split
      · exact LeO.bind (newR.mono _ _) (fun x => LeO.bind (newR.mono _ _) (fun y => LeO.bind (composeL.mono _ _ _ _ _ _) (fun out => LeO.bind (normal_Of.mono _ _) (fun r => LeO.refl _))))
      · exact LeO.refl _
    · exact LeO.refl _
  · exact LeO.refl _
theorem fill_two (A0 A1 : Option Addr) (n0 c0 n1 c1 : Nat) (z : Nat) (hz : z = 1) : Instr.fill (fun i => some (i * z, z)) ((Array.range (2 * z)).map ((Value.slice none 0 0).cells[· % (Value.slice none 0 0).cells.size]!)) [(0, .slice A0 n0 c0), (1, .slice A1 n1 c1)] = some #[.slice A0 n0 c0, .slice A1 n1 c1] := by
  subst hz
  simp [Instr.fill, Value.cells]
  rw [show Array.range 2 = #[0, 1] from rfl]
  simp
theorem info_rows : ∃ ie, Tryd.prog.info? 24 = some ie ∧ ie.size = 1 ∧ ie.zero = some (.slice none 0 0) := by
  have h1 : (Tryd.prog.info? 24).map (·.size) = some 1 := by kernel_rfl
  have h2 : (Tryd.prog.info? 24).bind (·.zero) = some (.slice none 0 0) := by kernel_rfl
  cases hie : Tryd.prog.info? 24 with
  | none => rw [hie] at h1; cases h1
  | some ie =>
    rw [hie] at h1 h2
    exact ⟨ie, rfl, by simpa using h1, h2⟩
def MayI (k : Nat) (l0 l1 : List S41) (kq : Nat) (v : Value) : Prop := (v = .int .i64 0 ∧ kq = 2) ∨ (v = .int .i64 1 ∧ kq = 1 ∧ op_May.f k l0 = some 0) ∨ (v = .int .i64 2 ∧ kq = 0 ∧ op_May.f k l0 = some 0 ∧ op_May.f k l1 = some 0)
theorem mn_min (a b : Int) : mn a b = min a b := by unfold mn; omega
theorem R_low {W : World} {b b' : Nat} {ok : Nat → Prop} {v : Value} {l : List S41} (hb : b' ≤ b) (h : Kd.R k41 41 W b ok v l) : Kd.R k41 41 W b' (fun _ => True) v l := Kd.R_mono (Kd.R_lower h hb) (fun _ _ => trivial)
set_option maxHeartbeats 40000000 in
set_option maxRecDepth 100000 in
theorem compose_Of.calls (k : Nat) (A0 : Option Addr) (c0 : Nat) (l0 : List S41) (A1 : Option Addr) (c1 : Nat) (l1 : List S41) (r1 : List S41) (r2 : Int) (w : World) (hG : Glob w) (hr0 : Kd.C k41 w A0 l0.length l0) (hc0 : l0.length ≤ c0) (hr1 : Kd.C k41 w A1 l1.length l1) (hc1 : l1.length ≤ c1) (h : compose_Of.f k l0 l1 = some (r1, r2)) :
  Calls Tryd.prog 41 #[.slice A0 l0.length c0, .slice A1 l1.length c1] w fun e w' => ∃ v0_ : Value, e = .returned (.tuple #[v0_, .int .i64 r2]) ∧ Kd.R k41 41 w' w.heap.size (fun _ => True) v0_ r1 ∧ Below w.heap.size w w' := by
 have HG := Aside0.mk hG;have HR0 := Aside0.mk hr0;have HC0 := Aside0.mk hc0;have HR1 := Aside0.mk hr1;have HC1 := Aside0.mk hc1;have H := Aside0.mk h;have HM : Aside0 (l0.length ≤ 9223372036854775807 ∧ l1.length ≤ 9223372036854775807) := ⟨hr0.2.1, hr1.2.1⟩
 clear hG hr0 hc0 hr1 hc1 h;go_enter Tryd.func41, Tryd.ntmps41
 obtain ⟨ie, hie, hi1, hi2⟩ := info_rows
 have HIE := Aside0.mk hie;have HI1 := Aside0.mk hi1;have HI2 := Aside0.mk hi2;clear hie hi1 hi2;go_wp2
 go_step3
 go_wp2_with (refine wpList_buildSlice rfl 22 24 2 _ rfl #[.slice A0 l0.length c0, .slice A1 l1.length c1] ie (.slice none 0 0) (by kernel_rfl) HIE.out HI2.out (by rw [HI1.out]; decide) (by rw [HI1.out]; decide) (fill_two A0 A1 l0.length c0 l1.length c1 ie.size HI1.out) ?_)
 have hws : w.heap.size < (w.alloc (.cells #[.slice A0 l0.length c0, .slice A1 l1.length c1] 24)).heap.size := by rw [size_alloc]; omega
 have HBK := Aside0.mk (blk_new w (.cells #[.slice A0 l0.length c0, .slice A1 l1.length c1] 24))
 have HB0 := Aside0.mk (below_alloc (Below.refl w.heap.size w) (.cells #[.slice A0 l0.length c0, .slice A1 l1.length c1] 24))
 go_loopg [19] 2 (fun kq v19 w' => MayI k l0 l1 kq v19 ∧ Aside0 (Below w.heap.size w w') ∧ Aside0 (w'.heap[w.heap.size]? = some (.cells #[.slice A0 l0.length c0, .slice A1 l1.length c1] 24 (0, 0))))
 case atStart => exact ⟨.inl ⟨rfl, rfl⟩, HB0, HBK⟩
 case round =>
  clear HB0 HBK hws HIE HI1 HI2;obtain ⟨hm, HBW, HBL⟩ := hrel
  rcases hm with ⟨rfl, rfl⟩ | ⟨rfl, rfl, hm0⟩ | ⟨rfl, rfl, hm0, hm1⟩
  ·obtain ⟨e0, he0, hrest⟩ := Option.bind_eq_some_iff.1 (show (op_May.f k l0).bind _ = _ from H.out)
   have cell0 : wr.cell? ⟨w.heap.size, 0, none⟩ = some (.slice A0 l0.length c0) := (blk_cell HBL.out 0).trans rfl
   have HE := Aside0.mk he0;by_cases hz : e0 = 0
   ·subst hz
    clear hrest he0;go_wp2_with (go_at_call 55; (with_reducible refine (op_May.calls k _ _ l0 0 _ (HG.out.below HBW.out) (Kd.C_below HR0.out HBW.out) HC0.out HE.out).mono ?_); rintro e w1 ⟨rfl, hb⟩; have HB1 := Aside0.mk hb; clear hb)
    go_roundg 1
    case measure => decide
    case rel => exact ⟨.inr (.inl ⟨rfl, rfl, HE.out⟩), ⟨below_step HBW.out HB1.out⟩, ⟨blk_below HBL.out HB1.out⟩⟩
   ·rw [if_neg hz] at hrest
    obtain ⟨rfl, rfl⟩ : [] = r1 ∧ e0 = r2 := by simpa using hrest
    have d1 : (e0 != 0) = true := by simp [hz]
    clear hrest he0 hz;go_wp2_with (go_at_call 55; (with_reducible refine (op_May.calls k _ _ l0 e0 _ (HG.out.below HBW.out) (Kd.C_below HR0.out HBW.out) HC0.out HE.out).mono ?_); rintro e w1 ⟨rfl, hb⟩; have HB1 := Aside0.mk hb; clear hb)
    rw [Exit.noGoto_ret]
    go_ret2
    exact ⟨_, rfl, Kd.R_nil _ _ _ _ _, below_step HBW.out HB1.out⟩
  ·obtain ⟨e0, he0, hrest⟩ := Option.bind_eq_some_iff.1 (show (op_May.f k l0).bind _ = _ from H.out)
   obtain rfl : e0 = 0 := by rw [hm0] at he0; exact (Option.some.inj he0).symm
   rw [if_pos rfl] at hrest
   obtain ⟨e1, he1, hrest⟩ := Option.bind_eq_some_iff.1 hrest
   have cell1 : wr.cell? ⟨w.heap.size, 1, none⟩ = some (.slice A1 l1.length c1) := (blk_cell HBL.out 1).trans rfl
   have HE0 := Aside0.mk he0;have HE := Aside0.mk he1;by_cases hz : e1 = 0
   ·subst hz
    clear hrest he1 he0 hm0;go_wp2_with (go_at_call 55; (with_reducible refine (op_May.calls k _ _ l1 0 _ (HG.out.below HBW.out) (Kd.C_below HR1.out HBW.out) HC1.out HE.out).mono ?_); rintro e w1 ⟨rfl, hb⟩; have HB1 := Aside0.mk hb; clear hb)
    go_roundg 0
    case measure => decide
    case rel => exact ⟨.inr (.inr ⟨rfl, rfl, HE0.out, HE.out⟩), ⟨below_step HBW.out HB1.out⟩, ⟨blk_below HBL.out HB1.out⟩⟩
   ·rw [if_neg hz] at hrest
    obtain ⟨rfl, rfl⟩ : [] = r1 ∧ e1 = r2 := by simpa using hrest
    have d1 : (e1 != 0) = true := by simp [hz]
    clear hrest he1 he0 hm0 hz;go_wp2_with (go_at_call 55; (with_reducible refine (op_May.calls k _ _ l1 e1 _ (HG.out.below HBW.out) (Kd.C_below HR1.out HBW.out) HC1.out HE.out).mono ?_); rintro e w1 ⟨rfl, hb⟩; have HB1 := Aside0.mk hb; clear hb)
    rw [Exit.noGoto_ret]
    go_ret2
    exact ⟨_, rfl, Kd.R_nil _ _ _ _ _, below_step HBW.out HB1.out⟩
  ·obtain ⟨e0, he0, hrest⟩ := Option.bind_eq_some_iff.1 (show (op_May.f k l0).bind _ = _ from H.out)
   obtain rfl : e0 = 0 := by rw [hm0] at he0; exact (Option.some.inj he0).symm
   rw [if_pos rfl] at hrest
   obtain ⟨e1, he1, hrest⟩ := Option.bind_eq_some_iff.1 hrest
   obtain rfl : e1 = 0 := by rw [hm1] at he1; exact (Option.some.inj he1).symm
   rw [if_pos rfl] at hrest
   obtain ⟨n, hn, hrest⟩ := Option.bind_eq_some_iff.1 hrest
   obtain ⟨m, hm, hrest⟩ := Option.bind_eq_some_iff.1 hrest
   have HN := Aside0.mk hn;have HMM := Aside0.mk hm;clear he0 he1 hm0 hm1 hn hm HBL;by_cases hz : n = m
   ·subst hz
    rw [if_pos rfl] at hrest
    obtain ⟨⟨lx, tx⟩, hx, hrest⟩ := Option.bind_eq_some_iff.1 hrest
    obtain ⟨⟨ly, ty⟩, hy, hrest⟩ := Option.bind_eq_some_iff.1 hrest
    obtain ⟨out, ho, hrest⟩ := Option.bind_eq_some_iff.1 hrest
    obtain ⟨r, hr, hrest⟩ := Option.bind_eq_some_iff.1 hrest
    obtain ⟨rfl, rfl⟩ : r = r1 ∧ 0 = r2 := by simpa using hrest
    have HX := Aside0.mk hx;have HY := Aside0.mk hy;have HO := Aside0.mk ho;have HRR := Aside0.mk hr;clear hx hy ho hr hrest;go_wp2_with (first | (go_at_call 22; (with_reducible refine (op_Out.calls k _ _ l0 n _ (HG.out.below HBW.out) (Kd.C_below HR0.out HBW.out) HC0.out HN.out).mono ?_); rintro e w1 ⟨rfl, hb⟩; have HB1 := Aside0.mk (below_step HBW.out hb); clear hb) | (go_at_call 56; (with_reducible refine (op_In.calls k _ _ l1 n _ (HG.out.below HB1.out) (Kd.C_below HR1.out HB1.out) HC1.out HMM.out).mono ?_); rintro e w2 ⟨rfl, hb⟩; have HB2 := Aside0.mk (below_step HB1.out hb); clear hb) | (go_at_call 68; (with_reducible refine (newReader.calls k A0 c0 l0 lx tx w _ HB2.out (Kd.C_below HR0.out HB2.out) HC0.out HX.out).mono ?_); rintro e w3 ⟨gx, glx, gtx, cx, cBx, Ax, Bx, rfl, RX, hb, _, _, _⟩; have HB3 := Aside0.mk (below_step HB2.out hb); have HRX := Aside0.mk RX; clear hb RX) | (go_at_call 68; (with_reducible refine (newReader.calls k A1 c1 l1 ly ty w _ HB3.out (Kd.C_below HR1.out HB3.out) HC1.out HY.out).mono ?_); rintro e w4 ⟨gy, gly, gty, cy, cBy, Ay, By, rfl, RY, hb, hy1, hy2, hy3⟩; have ST0 : Aside0 (CmS w w4 gx glx gy gly lx tx ly ty [] (.slice none 0 0)) := ⟨⟨below_step HB3.out hb, ⟨gtx, cx, cBx, Ax, Bx, HRX.out.below hb⟩, ⟨gty, cy, cBy, Ay, By, RY⟩, (by have := HRX.out.lt.1; omega), (fun a b => by have := HRX.out.lt.2.1 a; have := hy2 b; omega), Kd.R_nil _ _ _ _ _, (fun _ e => by cases e), (fun _ e => by cases e)⟩⟩; clear hb RY hy1 hy2 hy3))
    go_step3
    go_wp2
    go_loopg [11] k (fun kq v11 w' => ∃ (lx' : List S41) (tx' : List Int) (ly' : List S41) (ty' : List Int) (o : List S41), Aside0 (CmS w w' gx glx gy gly lx' tx' ly' ty' o v11) ∧ Aside0 (composeL kq lx' tx' ly' ty' o = some out))
    case atStart => exact ⟨_, _, _, _, _, ST0, HO⟩
    case round =>
     -- ROUND
     obtain ⟨lx, tx, ly, ty, o, ST, HC⟩ := hrel
     have hc := HC.out;clear ST0 HO;cases gk with
     | zero => cases hc
     | succ kq =>
      rw [composeL] at hc
      obtain ⟨gtx, cx, cBx, Ax, Bx, Rx⟩ := ST.out.x
      obtain ⟨gty, cy, cBy, Ay, By, Ry⟩ := ST.out.y
      replace Rx := Aside0.mk Rx
      replace Ry := Aside0.mk Ry
      by_cases hy2 : kindR ly = 2
      ·rw [if_pos hy2] at hc
       obtain ⟨⟨x, ly2, ty2⟩, hT, hc⟩ := Option.bind_eq_some_iff.1 hc
       split at hc
       ·next hlt =>
        have d0 : (kindR ly == 2) = true := by simp [hy2]
        have HTy := Aside0.mk hT;have HPy : Aside0 (0 < ly.length) := ⟨(takeR_len hT).2⟩
        have HC2 := Aside0.mk hc;have HLT := Aside0.mk hlt;clear hT hc hlt hy2 HC;go_wp2_with (first | (go_at_call 69; (with_reducible refine (reader_kind.calls w.heap.size gy gly gty cy cBy Ay By ly ty _ Ry.out).mono ?_); rintro e w1 ⟨rfl, rfl⟩) | (go_at_call 71; (with_reducible refine (reader_size.calls w.heap.size gy gly gty cy cBy Ay By ly ty _ Ry.out HPy.out).mono ?_); rintro e w1 ⟨rfl, rfl⟩) | (go_at_call 70; (with_reducible refine (reader_take.calls w.heap.size gy gly gty cy cBy Ay By ly ty (sizeR ly ty) w _ rfl (below_drew1 ST.out.b) (Ry.out.below (below_drew1 (Below.refl _ _))) x ly2 ty2 HTy.out).mono ?_); rintro e W1 ⟨rfl, tp⟩; have ST1 := Aside0.mk (((ST.out.below (below_drew1 (Below.refl _ _))).swap.take HPy.out (takeR_len HTy.out).1 tp).swap); clear tp) | ((with_reducible refine gate_builtin (b := .append) (xs := #[.tmp 42, .tmp 47]) rfl ?_); (try (refine gate_guard (by rfl) ?_; dsimp only)); at_builtin; refine Kd.R_append k41 (w0 := w) w.heap.size rfl (.tmp 42) (.tmp 47) 24 41 (.agg #[.int .i64 0, .int .i64 0, .string ⟨#[]⟩]) 32 rfl Tryd.underlying24 info41 rfl (by decide) (by omega) _ o x [.int .i64 x.f0, .int .i64 x.f1, .string x.f2] (fun _ => True) (fun _ => False) rfl (by first | rfl | (rw [size_alloc, size_alloc]; rfl)) (k41_mkM _ _ _ x) (fun _ hk => hk.elim) (fun _ _ => trivial) ST1.out.o ST1.out.b ST1.out.b.size ?aL ?_; (case aL => have := HLT.out; omega); intro v1 w5 ho1 hb1 hg1 hat1; have STF := Aside0.mk (CmS.append ST1.out ho1 hb1 hg1 hat1); clear ho1 hb1 hg1 hat1))
        go_roundg kq
        case measure => omega
        case rel => exact ⟨_, _, _, _, _, STF, HC2⟩
       ·cases hc
      ·rw [if_neg hy2] at hc
       have d0 : (kindR ly == 2) = false := by simp [hy2]
       clear hy2;by_cases hx3 : kindR lx = 3
       ·rw [if_pos hx3] at hc
        obtain ⟨⟨x, lx2, tx2⟩, hT, hc⟩ := Option.bind_eq_some_iff.1 hc
        split at hc
        ·next hlt =>
         have d1 : (kindR lx == 3) = true := by simp [hx3]
         have HTx := Aside0.mk hT;have HPx : Aside0 (0 < lx.length) := ⟨(takeR_len hT).2⟩
         have HC2 := Aside0.mk hc;have HLT := Aside0.mk hlt;clear hT hc hlt hx3 HC;go_wp2_with (first | (go_at_call 69; (with_reducible refine (reader_kind.calls w.heap.size gy gly gty cy cBy Ay By ly ty _ Ry.out).mono ?_); rintro e w1 ⟨rfl, rfl⟩) | (go_at_call 69; (with_reducible refine (reader_kind.calls w.heap.size gx glx gtx cx cBx Ax Bx lx tx _ Rx.out).mono ?_); rintro e w1 ⟨rfl, rfl⟩) | (go_at_call 71; (with_reducible refine (reader_size.calls w.heap.size gx glx gtx cx cBx Ax Bx lx tx _ Rx.out HPx.out).mono ?_); rintro e w1 ⟨rfl, rfl⟩) | (go_at_call 70; (with_reducible refine (reader_take.calls w.heap.size gx glx gtx cx cBx Ax Bx lx tx (sizeR lx tx) w _ rfl (below_drew1 ST.out.b) (Rx.out.below (below_drew1 (Below.refl _ _))) x lx2 tx2 HTx.out).mono ?_); rintro e W1 ⟨rfl, tp⟩; have ST1 := Aside0.mk ((ST.out.below (below_drew1 (Below.refl _ _))).take HPx.out (takeR_len HTx.out).1 tp); clear tp) | ((with_reducible refine gate_builtin (b := .append) (xs := #[.tmp 53, .tmp 58]) rfl ?_); (try (refine gate_guard (by rfl) ?_; dsimp only)); at_builtin; refine Kd.R_append k41 (w0 := w) w.heap.size rfl (.tmp 53) (.tmp 58) 24 41 (.agg #[.int .i64 0, .int .i64 0, .string ⟨#[]⟩]) 32 rfl Tryd.underlying24 info41 rfl (by decide) (by omega) _ o x [.int .i64 x.f0, .int .i64 x.f1, .string x.f2] (fun _ => True) (fun _ => False) rfl (by first | rfl | (rw [size_alloc, size_alloc]; rfl)) (k41_mkM _ _ _ x) (fun _ hk => hk.elim) (fun _ _ => trivial) ST1.out.o ST1.out.b ST1.out.b.size ?aL ?_; (case aL => have := HLT.out; omega); intro v1 w5 ho1 hb1 hg1 hat1; have STF := Aside0.mk (CmS.append ST1.out ho1 hb1 hg1 hat1); clear ho1 hb1 hg1 hat1))
         go_roundg kq
         case measure => omega
         case rel => exact ⟨_, _, _, _, _, STF, HC2⟩
        ·cases hc
       ·rw [if_neg hx3] at hc
        have d1 : (kindR lx == 3) = false := by simp [hx3]
        clear hx3;by_cases h00 : kindR lx = 0 ∨ kindR ly = 0
        ·rw [if_pos h00] at hc
         obtain rfl : o = out := Option.some.inj hc
         have d2 : (kindR lx == 0) = false → (kindR ly == 0) = true := by
          intro h;rcases h00 with h0 | h0
          ·simp [h0] at h
          ·simp [h0]
         clear hc h00 HC;obtain ⟨Av, cv, rfl⟩ := Kd.R_slice ST.out.o
         obtain ⟨_, hcv, hC⟩ := Kd.R_reads' ST.out.o
         have HCV := Aside0.mk hcv;have HCC := Aside0.mk hC;clear hcv hC;go_wp2_with (first | (go_at_call 69; (with_reducible refine (reader_kind.calls w.heap.size gy gly gty cy cBy Ay By ly ty _ Ry.out).mono ?_); rintro e w1 ⟨rfl, rfl⟩) | (go_at_call 69; (with_reducible refine (reader_kind.calls w.heap.size gx glx gtx cx cBx Ax Bx lx tx _ Rx.out).mono ?_); rintro e w1 ⟨rfl, rfl⟩) | (go_at_call 26; (with_reducible refine (normal_Of.calls k _ _ o r _ HCC.out HCV.out HRR.out).mono ?_); rintro e W1 ⟨v1, rfl, hv1, hb⟩; have HV1 := Aside0.mk hv1; have HB5 := Aside0.mk hb; clear hv1 hb))
         all_goals (try rw [Exit.noGoto_ret])
         all_goals go_ret2
         all_goals exact ⟨_, rfl, R_low (Nat.le_trans ST.out.b.size (Nat.le_refl _)) HV1.out, below_step ST.out.b HB5.out⟩
        ·rw [if_neg h00] at hc
         simp only [mn_min] at hc
         have d2 : (kindR lx == 0) = false := by simp; exact fun h => h00 (.inl h)
         have d3 : (kindR ly == 0) = false := by simp; exact fun h => h00 (.inr h)
         obtain ⟨⟨p, lx2, tx2⟩, hTx, hc⟩ := Option.bind_eq_some_iff.1 hc
         obtain ⟨⟨q, ly2, ty2⟩, hTy, hc⟩ := Option.bind_eq_some_iff.1 hc
         have HTx := Aside0.mk hTx;have HTy := Aside0.mk hTy;have HPx : Aside0 (0 < lx.length) := ⟨(takeR_len hTx).2⟩
         have HPy : Aside0 (0 < ly.length) := ⟨(takeR_len hTy).2⟩
         obtain ⟨Av, cv, rfl⟩ := Kd.R_slice ST.out.o
         clear hTx hTy h00 HC;by_cases hq1 : q.f0 = 1
         ·rw [if_pos hq1] at hc
          split at hc
          ·next hlt =>
           have dq : (q.f0 == 1) = true := by simp [hq1]
           have HC2 := Aside0.mk hc;have HLT := Aside0.mk hlt;clear hc hlt hq1;go_wp2_with (first | (go_at_call 69; (with_reducible refine (reader_kind.calls w.heap.size gy gly gty cy cBy Ay By ly ty _ Ry.out).mono ?_); rintro e w1 ⟨rfl, rfl⟩) | (go_at_call 69; (with_reducible refine (reader_kind.calls w.heap.size gx glx gtx cx cBx Ax Bx lx tx _ Rx.out).mono ?_); rintro e w1 ⟨rfl, rfl⟩) | (go_at_call 71; (with_reducible refine (reader_size.calls w.heap.size gx glx gtx cx cBx Ax Bx lx tx _ Rx.out HPx.out).mono ?_); rintro e w1 ⟨rfl, rfl⟩) | (go_at_call 71; (with_reducible refine (reader_size.calls w.heap.size gy gly gty cy cBy Ay By ly ty _ (Ry.out.below (below_drew1 (Below.refl _ _))) HPy.out).mono ?_); rintro e w1 ⟨rfl, rfl⟩) | (go_at_call 70; (with_reducible refine (reader_take.calls w.heap.size gx glx gtx cx cBx Ax Bx lx tx (min (sizeR lx tx) (sizeR ly ty)) w _ rfl (below_drew1 (below_drew1 ST.out.b)) (Rx.out.below (below_drew1 (below_drew1 (Below.refl _ _)))) p lx2 tx2 HTx.out).mono ?_); rintro e W1 ⟨rfl, tp⟩; have ST1 := Aside0.mk ((ST.out.below (below_drew1 (below_drew1 (Below.refl _ _)))).take HPx.out (takeR_len HTx.out).1 tp); clear tp; obtain ⟨gty3, cy3, cBy3, Ay3, By3, Ry3_⟩ := ST1.out.y; have Ry3 := Aside0.mk Ry3_; clear Ry3_) | (go_at_call 70; (with_reducible refine (reader_take.calls w.heap.size gy gly gty3 cy3 cBy3 Ay3 By3 ly ty (min (sizeR lx tx) (sizeR ly ty)) w _ rfl ST1.out.b Ry3.out q ly2 ty2 HTy.out).mono ?_); rintro e W2 ⟨rfl, tp⟩; have ST2 := Aside0.mk ((ST1.out.swap.take HPy.out (takeR_len HTy.out).1 tp).swap); have ST3 := Aside0.mk (ST2.out.below (below_alloc (below_alloc (Below.refl W2.heap.size W2) (.cells #[.int .i64 p.f0, .int .i64 p.f1, .string p.f2] 41)) (.cells #[.int .i64 q.f0, .int .i64 q.f1, .string q.f2] 41))); clear tp) | ((with_reducible refine gate_builtin (b := .append) (xs := #[.tmp 84, .tmp 86]) rfl ?_); (try (refine gate_guard (by rfl) ?_; dsimp only)); at_builtin; refine Kd.R_append k41 (w0 := w) w.heap.size rfl (.tmp 84) (.tmp 86) 24 41 (.agg #[.int .i64 0, .int .i64 0, .string ⟨#[]⟩]) 32 rfl Tryd.underlying24 info41 rfl (by decide) (by omega) _ o p [.int .i64 p.f0, .int .i64 p.f1, .string p.f2] (fun _ => True) (fun _ => False) rfl (by first | rfl | (rw [size_alloc, size_alloc]; rfl)) (k41_mkM _ _ _ p) (fun _ hk => hk.elim) (fun _ _ => trivial) ST3.out.o ST3.out.b ST3.out.b.size ?aL ?_; (case aL => have := HLT.out; omega); intro v1 w5 ho1 hb1 hg1 hat1; have STF := Aside0.mk (CmS.append ST3.out ho1 hb1 hg1 hat1); clear ho1 hb1 hg1 hat1))
           go_roundg kq
           case measure => omega
           case rel => exact ⟨_, _, _, _, _, STF, HC2⟩
          ·cases hc
         ·rw [if_neg hq1] at hc
          have dq : (q.f0 == 1) = false := by simp [hq1]
          by_cases hp1 : p.f0 = 1
          ·rw [if_pos hp1] at hc
           split at hc
           ·next hlt =>
            have dp : (p.f0 == 1) = true := by simp [hp1]
            have HC2 := Aside0.mk hc;have HLT := Aside0.mk hlt;clear hc hlt hq1 hp1;go_wp2_with (first | (go_at_call 69; (with_reducible refine (reader_kind.calls w.heap.size gy gly gty cy cBy Ay By ly ty _ Ry.out).mono ?_); rintro e w1 ⟨rfl, rfl⟩) | (go_at_call 69; (with_reducible refine (reader_kind.calls w.heap.size gx glx gtx cx cBx Ax Bx lx tx _ Rx.out).mono ?_); rintro e w1 ⟨rfl, rfl⟩) | (go_at_call 71; (with_reducible refine (reader_size.calls w.heap.size gx glx gtx cx cBx Ax Bx lx tx _ Rx.out HPx.out).mono ?_); rintro e w1 ⟨rfl, rfl⟩) | (go_at_call 71; (with_reducible refine (reader_size.calls w.heap.size gy gly gty cy cBy Ay By ly ty _ (Ry.out.below (below_drew1 (Below.refl _ _))) HPy.out).mono ?_); rintro e w1 ⟨rfl, rfl⟩) | (go_at_call 70; (with_reducible refine (reader_take.calls w.heap.size gx glx gtx cx cBx Ax Bx lx tx (min (sizeR lx tx) (sizeR ly ty)) w _ rfl (below_drew1 (below_drew1 ST.out.b)) (Rx.out.below (below_drew1 (below_drew1 (Below.refl _ _)))) p lx2 tx2 HTx.out).mono ?_); rintro e W1 ⟨rfl, tp⟩; have ST1 := Aside0.mk ((ST.out.below (below_drew1 (below_drew1 (Below.refl _ _)))).take HPx.out (takeR_len HTx.out).1 tp); clear tp; obtain ⟨gty3, cy3, cBy3, Ay3, By3, Ry3_⟩ := ST1.out.y; have Ry3 := Aside0.mk Ry3_; clear Ry3_) | (go_at_call 70; (with_reducible refine (reader_take.calls w.heap.size gy gly gty3 cy3 cBy3 Ay3 By3 ly ty (min (sizeR lx tx) (sizeR ly ty)) w _ rfl ST1.out.b Ry3.out q ly2 ty2 HTy.out).mono ?_); rintro e W2 ⟨rfl, tp⟩; have ST2 := Aside0.mk ((ST1.out.swap.take HPy.out (takeR_len HTy.out).1 tp).swap); have ST3 := Aside0.mk (ST2.out.below (below_alloc (below_alloc (Below.refl W2.heap.size W2) (.cells #[.int .i64 p.f0, .int .i64 p.f1, .string p.f2] 41)) (.cells #[.int .i64 q.f0, .int .i64 q.f1, .string q.f2] 41))); clear tp) | ((with_reducible refine gate_builtin (b := .append) (xs := #[.tmp 92, .tmp 94]) rfl ?_); (try (refine gate_guard (by rfl) ?_; dsimp only)); at_builtin; refine Kd.R_append k41 (w0 := w) w.heap.size rfl (.tmp 92) (.tmp 94) 24 41 (.agg #[.int .i64 0, .int .i64 0, .string ⟨#[]⟩]) 32 rfl Tryd.underlying24 info41 rfl (by decide) (by omega) _ o q [.int .i64 q.f0, .int .i64 q.f1, .string q.f2] (fun _ => True) (fun _ => False) rfl (by first | rfl | (rw [size_alloc, size_alloc]; rfl)) (k41_mkM _ _ _ q) (fun _ hk => hk.elim) (fun _ _ => trivial) ST3.out.o ST3.out.b ST3.out.b.size ?aL ?_; (case aL => have := HLT.out; omega); intro v1 w5 ho1 hb1 hg1 hat1; have STF := Aside0.mk (CmS.append ST3.out ho1 hb1 hg1 hat1); clear ho1 hb1 hg1 hat1))
            go_roundg kq
            case measure => omega
            case rel => exact ⟨_, _, _, _, _, STF, HC2⟩
           ·cases hc
          ·rw [if_neg hp1] at hc
           have dp : (p.f0 == 1) = false := by simp [hp1]
           have HC2 := Aside0.mk hc;clear hc hq1 hp1;go_wp2_with (first | (go_at_call 69; (with_reducible refine (reader_kind.calls w.heap.size gy gly gty cy cBy Ay By ly ty _ Ry.out).mono ?_); rintro e w1 ⟨rfl, rfl⟩) | (go_at_call 69; (with_reducible refine (reader_kind.calls w.heap.size gx glx gtx cx cBx Ax Bx lx tx _ Rx.out).mono ?_); rintro e w1 ⟨rfl, rfl⟩) | (go_at_call 71; (with_reducible refine (reader_size.calls w.heap.size gx glx gtx cx cBx Ax Bx lx tx _ Rx.out HPx.out).mono ?_); rintro e w1 ⟨rfl, rfl⟩) | (go_at_call 71; (with_reducible refine (reader_size.calls w.heap.size gy gly gty cy cBy Ay By ly ty _ (Ry.out.below (below_drew1 (Below.refl _ _))) HPy.out).mono ?_); rintro e w1 ⟨rfl, rfl⟩) | (go_at_call 70; (with_reducible refine (reader_take.calls w.heap.size gx glx gtx cx cBx Ax Bx lx tx (min (sizeR lx tx) (sizeR ly ty)) w _ rfl (below_drew1 (below_drew1 ST.out.b)) (Rx.out.below (below_drew1 (below_drew1 (Below.refl _ _)))) p lx2 tx2 HTx.out).mono ?_); rintro e W1 ⟨rfl, tp⟩; have ST1 := Aside0.mk ((ST.out.below (below_drew1 (below_drew1 (Below.refl _ _)))).take HPx.out (takeR_len HTx.out).1 tp); clear tp; obtain ⟨gty3, cy3, cBy3, Ay3, By3, Ry3_⟩ := ST1.out.y; have Ry3 := Aside0.mk Ry3_; clear Ry3_) | (go_at_call 70; (with_reducible refine (reader_take.calls w.heap.size gy gly gty3 cy3 cBy3 Ay3 By3 ly ty (min (sizeR lx tx) (sizeR ly ty)) w _ rfl ST1.out.b Ry3.out q ly2 ty2 HTy.out).mono ?_); rintro e W2 ⟨rfl, tp⟩; have ST2 := Aside0.mk ((ST1.out.swap.take HPy.out (takeR_len HTy.out).1 tp).swap); have ST3 := Aside0.mk (ST2.out.below (below_alloc (below_alloc (Below.refl W2.heap.size W2) (.cells #[.int .i64 p.f0, .int .i64 p.f1, .string p.f2] 41)) (.cells #[.int .i64 q.f0, .int .i64 q.f1, .string q.f2] 41))); clear tp))
           go_roundg kq
           case measure => omega
           case rel => exact ⟨_, _, _, _, _, ST3, HC2⟩
   ·rw [if_neg hz] at hrest
    obtain ⟨rfl, rfl⟩ : [] = r1 ∧ 5 = r2 := by simpa using hrest
    have d1 : (n != m) = true := by simp [hz]
    clear hrest hz;go_wp2_with (first | (go_at_call 22; (with_reducible refine (op_Out.calls k _ _ l0 n _ (HG.out.below HBW.out) (Kd.C_below HR0.out HBW.out) HC0.out HN.out).mono ?_); rintro e w1 ⟨rfl, hb⟩; have HB1 := Aside0.mk hb; clear hb) | (go_at_call 56; (with_reducible refine (op_In.calls k _ _ l1 m _ (HG.out.below (below_step HBW.out HB1.out)) (Kd.C_below HR1.out (below_step HBW.out HB1.out)) HC1.out HMM.out).mono ?_); rintro e w2 ⟨rfl, hb⟩; have HB2 := Aside0.mk hb; clear hb))
    rw [Exit.noGoto_ret]
    go_ret2
    exact ⟨_, rfl, Kd.R_nil _ _ _ _ _, below_step (below_step HBW.out HB1.out) HB2.out⟩
end Go.Proofs.YthhgobiaecehbaaDoor.F
end
section
namespace Go.Proofs.YthhgobiaecehbaaDoor.F
open Go.RowKit Go.Proofs.YthhgobiaecehbaaDoorW.PrintWords Go.Proofs.YthhgobiaecehbaaDoorW.PrintLast Go.Proofs.YthhgobiaecehbaaDoorW.PrintMore
set_option linter.unusedVariables false
set_option linter.unusedSimpArgs false
def fuseL (k : Nat) : List S41 → List (List S41) → Option (List S41 × Int)
  | x, [] => some (x, 0)
  | x, y :: r => (compose_Of.f k x y).bind fun z => if z.2 = 0 then fuseL k z.1 r else some ([], z.2)
theorem fuseL.mono (k : Nat) : ∀ (l : List (List S41)) (x : List S41), LeO (fuseL k x l) (fuseL (k + 1) x l)
  | [], x => LeO.refl _
  | y :: r, x => by
    rw [fuseL, fuseL]
    refine LeO.bind (compose_Of.mono _ _ _) (fun z => ?_)
    split
    · exact fuseL.mono k r _
    · exact LeO.refl _
def fuse_Of.f (k : Nat) (n : Int) (l : List (List S41)) : Option (List S41 × Int) := (op_Keep.f k n).bind fun x => if x.2 = 0 then fuseL k x.1 l else some ([], x.2)
theorem fuse_Of.mono (n : Int) (l : List (List S41)) (k : Nat) : LeO (fuse_Of.f k n l) (fuse_Of.f (k + 1) n l) := by
  unfold fuse_Of.f
  refine LeO.bind (op_Keep.mono _ _) (fun x => ?_)
  split
  · exact fuseL.mono k l _
  · exact LeO.refl _
theorem row_at {W : World} {A : Option Addr} {n : Nat} {l done rest : List (List S41)} {x : List S41} (h : Kd.C (Kd.slice 41 k41) W A n l) (e : l = done ++ x :: rest) (hn : done.length < n) : ∃ (ad : Addr) (A0 : Option Addr) (c0 : Nat), A = some ad ∧ W.cell? (ad.add done.length) = some (.slice A0 x.length c0) ∧ x.length ≤ c0 ∧ Kd.C k41 W A0 x.length x := by
  obtain ⟨ad, c, e1, _, hK, hc0⟩ := Kd.C_get h ([] : List S41) (done.length : Int) (by omega) (by omega)
  have hx : l.getD (done.length : Int).toNat ([] : List S41) = x := by rw [Int.toNat_natCast, List.getD_eq_getElem?_getD, e]; simp
  rw [hx] at hK
  have hc : ∀ j u, c[j]? = some u → W.cell? (ad.add ((done.length : Int).toNat * 1 + j)) = some u := hc0
  obtain ⟨A0, c0, rfl, l0, g0⟩ := hK
  exact ⟨ad, A0, c0, e1, by have hq := hc 0 _ rfl; rwa [Nat.mul_one, Nat.add_zero, Int.toNat_natCast] at hq, l0, g0⟩
set_option maxHeartbeats 40000000 in
set_option maxRecDepth 100000 in
theorem fuse_fold.calls (k base : Nat) (v0 : Value) (x0 : List S41) (A1 : Option Addr) (c1 : Nat) (l1 : List (List S41)) (r1 : List S41) (r2 : Int) (w : World) (hG : Glob w) (hbase : base ≤ w.heap.size) (ho : Kd.R k41 41 w base (fun _ => True) v0 x0) (hr1 : Kd.C (Kd.slice 41 k41) w A1 l1.length l1) (hc1 : l1.length ≤ c1) (h : fuseL k x0 l1 = some (r1, r2)) :
  Calls Tryd.prog 40 #[v0, .slice A1 l1.length c1, .func (.func 41) #[] #[]] w fun e w' => ∃ v0_ : Value, e = .returned (.tuple #[v0_, .int .i64 r2]) ∧ Kd.R k41 41 w' base (fun _ => True) v0_ r1 ∧ Below w.heap.size w w' := by
 have HG := Aside0.mk hG;have HR1 := Aside0.mk hr1;have HC1 := Aside0.mk hc1;have HO := Aside0.mk ho;have H := Aside0.mk h;have HBS := Aside0.mk hbase;have HM : Aside0 (l1.length ≤ 9223372036854775807) := ⟨hr1.2.1⟩
 clear hG hr1 hc1 ho h hbase;go_enter Tryd.func40, Tryd.ntmps40
 go_wp2
 go_loopg [0, 15] l1.length (fun kq v0 v15 w' => ∃ (done rest : List (List S41)) (x : List S41), v15 = .int .i64 (done.length : Int) ∧ Aside0 (l1 = done ++ rest) ∧ Aside0 (kq = rest.length) ∧ Aside0 (Kd.R k41 41 w' base (fun _ => True) v0 x) ∧ Aside0 (fuseL k x rest = some (r1, r2)) ∧ Aside0 (Below w.heap.size w w'))
 case atStart => exact ⟨[], l1, x0, rfl, ⟨rfl⟩, ⟨rfl⟩, HO, H, ⟨Below.refl _ _⟩⟩
 case round =>
  clear HO H;obtain ⟨done, rest, x, rfl, HL, HK, HO, H, HB⟩ := hrel
  have hdl : Aside0 (l1.length = done.length + rest.length) := ⟨by have := HL.out; rw [this]; simp⟩
  have hmx : (l1.length : Int) ≤ 9223372036854775807 := by have := HM.out; omega
  cases rest with
  | nil =>
   have hlt : decide ((done.length : Int) < (l1.length : Int)) = false := decide_eq_false (by have := hdl.out; simp at this; omega)
   have hlt2 : decide (done.length < l1.length) = false := decide_eq_false (by have := hdl.out; simp at this; omega)
   obtain ⟨rfl, rfl⟩ : x = r1 ∧ 0 = r2 := by simpa [fuseL] using H.out
   obtain ⟨A, c, rfl⟩ := Kd.R_slice HO.out
   clear hmx;go_wp2
   (try rw [Exit.noGoto_ret])
   go_ret2
   exact ⟨_, rfl, HO.out, HB.out⟩
  | cons y rest =>
   have hlt : (done.length : Int) < (l1.length : Int) := by have := hdl.out; simp at this; omega
   obtain ⟨ad, Ay, cy, rfl, hcell, hly, hCy⟩ := row_at HR1.out HL.out (by omega)
   replace hcell := (HB.out.cell (World.block_lt_of_cell? w _ hcell)).trans hcell
   have HLY := Aside0.mk hly;have HCY := Aside0.mk hCy;obtain ⟨⟨z, ez⟩, hz, hrest⟩ := Option.bind_eq_some_iff.1 (show (compose_Of.f k x y).bind _ = _ from H.out)
   have HZ := Aside0.mk hz;obtain ⟨A, c, rfl⟩ := Kd.R_slice HO.out
   obtain ⟨_, hcv, hC⟩ := Kd.R_reads' HO.out
   have HCV := Aside0.mk hcv;have HCC := Aside0.mk hC;clear hcv hC hly hCy hz;by_cases h0 : ez = 0
   ·subst h0
    have HR := Aside0.mk (show fuseL k z rest = some (r1, r2) by simpa using hrest)
    clear hrest;go_wp2_with ((with_reducible refine gate_value (x := .tmp 20) rfl ?_); refine goesV_ (some 23) rfl rfl Tryd.func41 (by kernel_rfl) rfl #[.slice A x.length c, .slice Ay y.length cy] rfl rfl zE ?_; (with_reducible refine (compose_Of.calls k A c x Ay cy y z 0 _ (HG.out.below HB.out) HCC.out HCV.out (Kd.C_below HCY.out HB.out) HLY.out HZ.out).mono ?_); rintro e w1 ⟨v1, rfl, ho1, hb1⟩; refine ⟨_, rfl, ?_⟩; have HO1 := Aside0.mk (R_low (Nat.le_trans HBS.out HB.out.size) ho1); have HB1 := Aside0.mk (below_step HB.out hb1); clear ho1 hb1)
    go_roundg rest.length
    case measure => have := HK.out; simp at this; omega
    case rel => exact ⟨done ++ [y], rest, z, by rw [List.length_append, List.length_singleton]; go_num, ⟨by rw [HL.out]; simp⟩, ⟨rfl⟩, HO1, HR, HB1⟩
   ·obtain ⟨rfl, rfl⟩ : [] = r1 ∧ ez = r2 := by simpa [h0] using hrest
    have d1 : (ez != 0) = true := by simp [h0]
    clear hrest h0;go_wp2_with ((with_reducible refine gate_value (x := .tmp 20) rfl ?_); refine goesV_ (some 23) rfl rfl Tryd.func41 (by kernel_rfl) rfl #[.slice A x.length c, .slice Ay y.length cy] rfl rfl zE ?_; (with_reducible refine (compose_Of.calls k A c x Ay cy y z ez _ (HG.out.below HB.out) HCC.out HCV.out (Kd.C_below HCY.out HB.out) HLY.out HZ.out).mono ?_); rintro e w1 ⟨v1, rfl, ho1, hb1⟩; refine ⟨_, rfl, ?_⟩; have HB1 := Aside0.mk (below_step HB.out hb1); clear ho1 hb1)
    go_ret2
    exact ⟨_, rfl, Kd.R_nil _ _ _ _ _, HB1.out⟩
set_option maxHeartbeats 4000000 in
set_option maxRecDepth 100000 in
theorem fuse_Of.calls (k : Nat) (a0 : Int) (A1 : Option Addr) (c1 : Nat) (l1 : List (List S41)) (r1 : List S41) (r2 : Int) (w : World) (hG : Glob w) (hr1 : Kd.C (Kd.slice 41 k41) w A1 l1.length l1) (hc1 : l1.length ≤ c1) (h : fuse_Of.f k a0 l1 = some (r1, r2)) :
  Calls Tryd.prog 15 #[.int .i64 a0, .slice A1 l1.length c1] w fun e w' => ∃ v0_ : Value, e = .returned (.tuple #[v0_, .int .i64 r2]) ∧ Kd.R k41 41 w' w.heap.size (fun _ => True) v0_ r1 ∧ Below w.heap.size w w' := by
 have HG := Aside0.mk hG;have HR1 := Aside0.mk hr1;have HC1 := Aside0.mk hc1;obtain ⟨⟨x, e0⟩, hx, h⟩ := Option.bind_eq_some_iff.1 h
 have HX := Aside0.mk hx;clear hG hr1 hc1 hx;by_cases h0 : e0 = 0
 ·subst h0
  have H := Aside0.mk (show fuseL k x l1 = some (r1, r2) by simpa using h)
  clear h;go_enter Tryd.func15, Tryd.ntmps15
  go_wp2_with (first | (go_at_call 24; (with_reducible refine (op_Keep.calls k a0 x 0 _ HX.out).mono ?_); rintro e w1 ⟨v1, rfl, ho, hb⟩; have HO := Aside0.mk ho; have HB := Aside0.mk hb; clear ho hb) | (go_at_call 40; (with_reducible refine (fuse_fold.calls k w.heap.size v1 x A1 c1 l1 r1 r2 w1 (HG.out.below HB.out) HB.out.size HO.out (Kd.C_below HR1.out HB.out) HC1.out H.out).mono ?_); rintro e w2 ⟨v2, rfl, ho2, hb2⟩; have HO2 := Aside0.mk ho2; have HB2 := Aside0.mk (below_step HB.out hb2); clear ho2 hb2))
  go_ret2
  exact ⟨_, rfl, HO2.out, HB2.out⟩
 ·obtain ⟨rfl, rfl⟩ : [] = r1 ∧ e0 = r2 := by simpa [h0] using h
  have d1 : (e0 != 0) = true := by simp [h0]
  clear h h0;go_enter Tryd.func15, Tryd.ntmps15
  go_wp2_with (go_at_call 24; (with_reducible refine (op_Keep.calls k a0 x e0 _ HX.out).mono ?_); rintro e w1 ⟨v1, rfl, ho, hb⟩; have HB := Aside0.mk hb; clear ho hb)
  go_ret2
  exact ⟨_, rfl, Kd.R_nil _ _ _ _ _, HB.out⟩
end Go.Proofs.YthhgobiaecehbaaDoor.F
end
section
namespace Go.Proofs.YthhgobiaecehbaaDoor.F
open Go.RowKit Go.Proofs.YthhgobiaecehbaaDoorW.PrintWords Go.Proofs.YthhgobiaecehbaaDoorW.PrintLast Go.Proofs.YthhgobiaecehbaaDoorW.PrintMore
attribute [local go_sem] max2_int min2_int max_two min_two max_three min_three max_four min_four cell_setCell_isSome
set_option linter.unusedVariables false
set_option linter.unusedSimpArgs false
open Kd
attribute [local go_sem high] eqA41
def epitomelaw10_shown.f (k : Nat)  : Option (Bool) := (fuse_Of.f k 1 (([(([(⟨2, 0, (⟨#[97]⟩ : ByteArray)⟩ : S41), (⟨1, 1, (⟨#[]⟩ : ByteArray)⟩ : S41)] : List (S41))), (([(⟨3, 1, (⟨#[]⟩ : ByteArray)⟩ : S41), (⟨1, 1, (⟨#[]⟩ : ByteArray)⟩ : S41)] : List (S41)))] : List (List (S41))))).bind fun bt110 => ((fuse_Chain.f k 3 ([] : List (List (S41)))).bind fun bt114 => (if bt110.2 = 0 then (if (bt110.1.length : Int) = 1 then (if 0 < (bt110.1.length : Int) then (if (((rd_T41 bt110.1 0).f0) == 1 && (((rd_T41 bt110.1 0).f1) == 1 && ((((rd_T41 bt110.1 0).f2).toList) == ([] : List UInt8)))) = true then (if bt114.1 = 3 then (some (bt114.2 == 0)) else (some false)) else (some false)) else (none)) else (some false)) else (some false)))
theorem epitomelaw10_shown.mono : ∀ k, LeO (epitomelaw10_shown.f k ) (epitomelaw10_shown.f (k + 1) ) := by
  intro  k
  unfold epitomelaw10_shown.f
  repeat' first
      | (with_reducible exact fuse_Chain.mono _ _ _)
      | (with_reducible exact fuse_Of.mono _ _ _)
      | (with_reducible exact LeO.refl _)
      | (with_reducible exact LeO.none _)
      | (with_reducible refine LeO.ite ?_ ?_)
      | (with_reducible refine LeO.bind ?_ (fun _ => ?_))
      | exact fuse_Chain.mono _ _ _
      | exact fuse_Of.mono _ _ _
      | exact LeO.none _
      | refine LeO.ite ?_ ?_
      | refine LeO.bind ?_ (fun _ => ?_)
set_option maxHeartbeats 40000000 in
set_option maxRecDepth 100000 in
theorem epitomelaw10_shown.calls (k : Nat)  (r : Bool) (w : World) (hG : Glob w) (h : epitomelaw10_shown.f k  = some r) :
  Calls Tryd.prog 14 #[] w fun e w' => e = .returned (.bool r) ∧ Below w.heap.size w w' := by
 have hu41 := Tryd.underlying41
 have HG := Am hG;clear hG;have HB := Am (Below.refl w.heap.size w)
 have H : ((fuse_Of.f k 1 (([(([(⟨2, 0, (⟨#[97]⟩ : ByteArray)⟩ : S41), (⟨1, 1, (⟨#[]⟩ : ByteArray)⟩ : S41)] : List (S41))), (([(⟨3, 1, (⟨#[]⟩ : ByteArray)⟩ : S41), (⟨1, 1, (⟨#[]⟩ : ByteArray)⟩ : S41)] : List (S41)))] : List (List (S41))))).bind fun bt110 => ((fuse_Chain.f k 3 ([] : List (List (S41)))).bind fun bt114 => (if bt110.2 = 0 then (if (bt110.1.length : Int) = 1 then (if 0 < (bt110.1.length : Int) then (if (((rd_T41 bt110.1 0).f0) == 1 && (((rd_T41 bt110.1 0).f1) == 1 && ((((rd_T41 bt110.1 0).f2).toList) == ([] : List UInt8)))) = true then (if bt114.1 = 3 then (some (bt114.2 == 0)) else (some false)) else (some false)) else (none)) else (some false)) else (some false)))) = some r := h
 clear h;obtain ⟨y101, hy101⟩ : ∃ y_ : List (S41), y_ = (([(⟨2, 0, (⟨#[97]⟩ : ByteArray)⟩ : S41), (⟨1, 1, (⟨#[]⟩ : ByteArray)⟩ : S41)] : List (S41))) := ⟨_, rfl⟩
 replace H : ((fuse_Of.f k 1 (([y101, (([(⟨3, 1, (⟨#[]⟩ : ByteArray)⟩ : S41), (⟨1, 1, (⟨#[]⟩ : ByteArray)⟩ : S41)] : List (S41)))] : List (List (S41))))).bind fun bt110 => ((fuse_Chain.f k 3 ([] : List (List (S41)))).bind fun bt114 => (if bt110.2 = 0 then (if (bt110.1.length : Int) = 1 then (if 0 < (bt110.1.length : Int) then (if (((rd_T41 bt110.1 0).f0) == 1 && (((rd_T41 bt110.1 0).f1) == 1 && ((((rd_T41 bt110.1 0).f2).toList) == ([] : List UInt8)))) = true then (if bt114.1 = 3 then (some (bt114.2 == 0)) else (some false)) else (some false)) else (none)) else (some false)) else (some false)))) = some r := by first | (rw [hy101]; with_reducible exact H) | (have H2_ := (Option.bind_some _ _).symm.trans H; rw [hy101]; with_reducible exact H2_) | (have H2_ := (Option.bind_some _ _).symm.trans H; with_reducible exact H2_) | with_reducible exact H | (rw [hy101]; exact H) | exact H
 have Ny101 := Am hy101;clear hy101;obtain ⟨y104, hy104⟩ : ∃ y_ : List (S41), y_ = (([(⟨3, 1, (⟨#[]⟩ : ByteArray)⟩ : S41), (⟨1, 1, (⟨#[]⟩ : ByteArray)⟩ : S41)] : List (S41))) := ⟨_, rfl⟩
 replace H : ((fuse_Of.f k 1 (([y101, y104] : List (List (S41))))).bind fun bt110 => ((fuse_Chain.f k 3 ([] : List (List (S41)))).bind fun bt114 => (if bt110.2 = 0 then (if (bt110.1.length : Int) = 1 then (if 0 < (bt110.1.length : Int) then (if (((rd_T41 bt110.1 0).f0) == 1 && (((rd_T41 bt110.1 0).f1) == 1 && ((((rd_T41 bt110.1 0).f2).toList) == ([] : List UInt8)))) = true then (if bt114.1 = 3 then (some (bt114.2 == 0)) else (some false)) else (some false)) else (none)) else (some false)) else (some false)))) = some r := by first | (rw [hy104]; with_reducible exact H) | (have H2_ := (Option.bind_some _ _).symm.trans H; rw [hy104]; with_reducible exact H2_) | (have H2_ := (Option.bind_some _ _).symm.trans H; with_reducible exact H2_) | with_reducible exact H | (rw [hy104]; exact H) | exact H
 have Ny104 := Am hy104;clear hy104;obtain ⟨y107, hy107⟩ : ∃ y_ : List (List (S41)), y_ = (([y101, y104] : List (List (S41)))) := ⟨_, rfl⟩
 replace H : ((fuse_Of.f k 1 y107).bind fun bt110 => ((fuse_Chain.f k 3 ([] : List (List (S41)))).bind fun bt114 => (if bt110.2 = 0 then (if (bt110.1.length : Int) = 1 then (if 0 < (bt110.1.length : Int) then (if (((rd_T41 bt110.1 0).f0) == 1 && (((rd_T41 bt110.1 0).f1) == 1 && ((((rd_T41 bt110.1 0).f2).toList) == ([] : List UInt8)))) = true then (if bt114.1 = 3 then (some (bt114.2 == 0)) else (some false)) else (some false)) else (none)) else (some false)) else (some false)))) = some r := by first | (rw [hy107]; with_reducible exact H) | (have H2_ := (Option.bind_some _ _).symm.trans H; rw [hy107]; with_reducible exact H2_) | (have H2_ := (Option.bind_some _ _).symm.trans H; with_reducible exact H2_) | with_reducible exact H | (rw [hy107]; exact H) | exact H
 have Ny107 := Am hy107;clear hy107;replace H := Option.bind_eq_some_iff.mp H;obtain ⟨⟨t110, t111⟩, A10, H⟩ := H;have A1 := Am A10;clear A10;replace H := Option.bind_eq_some_iff.mp H;obtain ⟨⟨t114, t115⟩, A20, H⟩ := H;have A2 := Am A20;clear A20;by_cases c3 : t111 = 0
 ·rw [if_pos c3] at H;have c3b0 : (t111 == 0) = true := beq_iff_eq.mpr c3
  have c3b1 : (t111 != 0) = false := bne_eq_false_iff_eq.mpr c3
  clear c3;by_cases c4 : (t110.length : Int) = 1
  ·rw [if_pos c4] at H;have c4b0 : ((t110.length : Int) == 1) = true := beq_iff_eq.mpr c4
   have c4b1 : ((t110.length : Int) != 1) = false := bne_eq_false_iff_eq.mpr c4
   clear c4;by_cases c5 : 0 < (t110.length : Int)
   ·rw [if_pos c5] at H;have c5b0 : decide (0 < (t110.length : Int)) = true := decide_eq_true c5
    have c5b1 : decide (0 < t110.length) = true := decide_eq_true (by omega)
    clear c5;by_cases c6 : (((rd_T41 t110 0).f0) == 1 && (((rd_T41 t110 0).f1) == 1 && ((((rd_T41 t110 0).f2).toList) == ([] : List UInt8)))) = true
    ·rw [if_pos c6] at H;have c6b0 : (((rd_T41 t110 0).f0) == 1 && (((rd_T41 t110 0).f1) == 1 && ((((rd_T41 t110 0).f2).toList) == ([] : List UInt8)))) = true := c6
     (try (have c6b0e : (((rd_T41 t110 0).f0) == 1 && (((rd_T41 t110 0).f1) == 1 && ((((rd_T41 t110 0).f2).toList).isEmpty))) = true := by simpa using c6b0))
     (try (have c6b1 : decide (((rd_T41 t110 0).f0) = 1 && (((rd_T41 t110 0).f1) == 1 && ((((rd_T41 t110 0).f2).toList) == ([] : List UInt8)))) = true := by simpa using c6))
     (try (have c6b2 : (((rd_T41 t110 0).f0) == 1 && (((rd_T41 t110 0).f1) == 1 && ((((rd_T41 t110 0).f2).toList) == ([] : List UInt8)))) = true := by simpa using c6))
     (try (have c6b3 : ((rd_T41 t110 0).f0) = true := eqb_l (a := ((rd_T41 t110 0).f0)) (b := 1 && (((rd_T41 t110 0).f1) == 1 && ((((rd_T41 t110 0).f2).toList) == ([] : List UInt8)))) (v := true) (by first | exact c6 | simpa using c6) (by assumption)))
     (try (have c6b4 : ((rd_T41 t110 0).f0) = false := eqb_l (a := ((rd_T41 t110 0).f0)) (b := 1 && (((rd_T41 t110 0).f1) == 1 && ((((rd_T41 t110 0).f2).toList) == ([] : List UInt8)))) (v := false) (by first | exact c6 | simpa using c6) (by assumption)))
     (try (have c6b5 : 1 && (((rd_T41 t110 0).f1) == 1 && ((((rd_T41 t110 0).f2).toList) == ([] : List UInt8))) = true := eqb_r (a := ((rd_T41 t110 0).f0)) (b := 1 && (((rd_T41 t110 0).f1) == 1 && ((((rd_T41 t110 0).f2).toList) == ([] : List UInt8)))) (v := true) (by first | exact c6 | simpa using c6) (by assumption)))
     (try (have c6b6 : 1 && (((rd_T41 t110 0).f1) == 1 && ((((rd_T41 t110 0).f2).toList) == ([] : List UInt8))) = false := eqb_r (a := ((rd_T41 t110 0).f0)) (b := 1 && (((rd_T41 t110 0).f1) == 1 && ((((rd_T41 t110 0).f2).toList) == ([] : List UInt8)))) (v := false) (by first | exact c6 | simpa using c6) (by assumption)))
     clear c6;by_cases c7 : t114 = 3
     ·rw [if_pos c7] at H;have c7b0 : (t114 == 3) = true := beq_iff_eq.mpr c7
      have c7b1 : (t114 != 3) = false := bne_eq_false_iff_eq.mpr c7
      clear c7;obtain rfl := Option.some.inj H;go_enter Tryd.func14, Tryd.ntmps14
      go_wp2_with (first | ((with_reducible refine gate_dst (N := 8) rfl ?_); (try (refine gate_guard (by rfl) ?_; dsimp only)); refine R_lit k41 _ 41 ?hg (N := 8) ?hd (xs := ([(⟨2, 0, (⟨#[97]⟩ : ByteArray)⟩ : S41), (⟨1, 1, (⟨#[]⟩ : ByteArray)⟩ : S41)] : List (S41))) (inner := [.int .i64 2, .int .i64 0, .string (⟨#[97]⟩ : ByteArray), .int .i64 1, .int .i64 1, .string (⟨#[]⟩ : ByteArray)]) (ok := fun _ => True) (okp := fun _ => True) ?hr ?hp (fun _ hk => hk) trivial (Below.refl _ _) (Nat.le_refl _) (by simp) ?_; (case hd => rfl); (case hg => rfl); (case hr => first | (go_simp; done) | (go_simp; rfl)); (case hp => exact (Reps.c3 (show Kd.M k41 _ _ _ (⟨2, 0, (⟨#[97]⟩ : ByteArray)⟩ : S41) [.int .i64 2, .int .i64 0, .string (⟨#[97]⟩ : ByteArray)] from (k41_mkM _ _ _ (⟨2, 0, (⟨#[97]⟩ : ByteArray)⟩ : S41) )) (Reps.c3 (show Kd.M k41 _ _ _ (⟨1, 1, (⟨#[]⟩ : ByteArray)⟩ : S41) [.int .i64 1, .int .i64 1, .string (⟨#[]⟩ : ByteArray)] from (k41_mkM _ _ _ (⟨1, 1, (⟨#[]⟩ : ByteArray)⟩ : S41) )) (Reps.none _ _)))); intro v102 w8 ho9 hb hg_ hnew_; clear hg_ hnew_; (first | rw [← Ny101.out] at ho9 | (simp only [Int.reduceToNat] at ho9; rw [← Ny101.out] at ho9)); have HO103 := Am (R_lower ho9 (below_size (zB HB)));replace HB := Am (below_step (zB HB) hb); clear hb ho9) | ((with_reducible refine gate_dst (N := 11) rfl ?_); (try (refine gate_guard (by rfl) ?_; dsimp only)); refine R_lit k41 _ 41 ?hg (N := 11) ?hd (xs := ([(⟨3, 1, (⟨#[]⟩ : ByteArray)⟩ : S41), (⟨1, 1, (⟨#[]⟩ : ByteArray)⟩ : S41)] : List (S41))) (inner := [.int .i64 3, .int .i64 1, .string (⟨#[]⟩ : ByteArray), .int .i64 1, .int .i64 1, .string (⟨#[]⟩ : ByteArray)]) (ok := fun _ => True) (okp := fun _ => True) ?hr ?hp (fun _ hk => hk) trivial (Below.refl _ _) (Nat.le_refl _) (by simp) ?_; (case hd => rfl); (case hg => rfl); (case hr => first | (go_simp; done) | (go_simp; rfl)); (case hp => exact (Reps.c3 (show Kd.M k41 _ _ _ (⟨3, 1, (⟨#[]⟩ : ByteArray)⟩ : S41) [.int .i64 3, .int .i64 1, .string (⟨#[]⟩ : ByteArray)] from (k41_mkM _ _ _ (⟨3, 1, (⟨#[]⟩ : ByteArray)⟩ : S41) )) (Reps.c3 (show Kd.M k41 _ _ _ (⟨1, 1, (⟨#[]⟩ : ByteArray)⟩ : S41) [.int .i64 1, .int .i64 1, .string (⟨#[]⟩ : ByteArray)] from (k41_mkM _ _ _ (⟨1, 1, (⟨#[]⟩ : ByteArray)⟩ : S41) )) (Reps.none _ _)))); intro v105 w10 ho11 hb hg_ hnew_; clear hg_ hnew_; (first | rw [← Ny104.out] at ho11 | (simp only [Int.reduceToNat] at ho11; rw [← Ny104.out] at ho11)); have HO106 := Am (R_lower (zn ho11 HO103) (below_size (zB HB)));replace HO103 := Am (zr HO103 ho11 hb);replace HB := Am (below_step (zB HB) hb); clear hb ho11; obtain ⟨Ao12, co12, eo12⟩ := R_slice HO103.out; subst eo12; obtain ⟨Ao13, co13, eo13⟩ := R_slice HO106.out; subst eo13) | ((with_reducible refine gate_dst (N := 12) rfl ?_); (try (refine gate_guard (by rfl) ?_; dsimp only)); refine Kd.N_lit (Kd.slice 41 k41) _ 24 ?hg (N' := 12) ?hd (xs := ([y101, y104] : List (List (S41)))) (inner := [.slice Ao12 y101.length co12, .slice Ao13 y104.length co13]) (ok := (fun _ => True)) (okp := (fun _ => True)) ?hr ?hp (fun _ hk => hk) ((show ∀ k_, w10.heap.size ≤ k_ → (fun _ => True) k_ from fun k_ hk => trivial) _ (Nat.le_refl _)) (Below.refl _ _) (Nat.le_refl _) (by simp) ?_; (case hd => rfl); (case hg => rfl); (case hr => first | (go_simp; done) | (go_simp; rfl)); (case hp => exact (Reps.one (show Kd.FK (Kd.slice 41 k41) _ _ y101 [.slice Ao12 y101.length co12] from (Kd.FK_slice_mk (R_reads' (R_mono (ok' := (fun _ => True)) (HO103.out) (fun k_ hk => trivial))).2.1 (R_F (R_mono (ok' := (fun _ => True)) (HO103.out) (fun k_ hk => trivial))))) (Reps.one (show Kd.FK (Kd.slice 41 k41) _ _ y104 [.slice Ao13 y104.length co13] from (Kd.FK_slice_mk (R_reads' (R_mono (ok' := (fun _ => True)) (HO106.out) (fun k_ hk => trivial))).2.1 (R_F (R_mono (ok' := (fun _ => True)) (HO106.out) (fun k_ hk => trivial))))) (Reps.none _ _)))); intro v108 w14 ho15 hb hg_ hnew_; clear hg_ hnew_; (first | rw [← Ny107.out] at ho15 | (simp only [Int.reduceToNat] at ho15; rw [← Ny107.out] at ho15)); have HO109 := Am (Kd.N_lower ho15 (below_size (zB HB)));replace HB := Am (below_step (zB HB) hb);clear HO103 HO106; clear hb ho15; obtain ⟨Ao16, co16, eo16⟩ := Kd.N_slice HO109.out; subst eo16) | ((with_reducible refine gate_callee (f := 15) rfl ?_); refine goesL_ (some 13) rfl rfl Tryd.func15 (by kernel_rfl) rfl #[.int .i64 1, .slice Ao16 y107.length co16] rfl zE ?_; (with_reducible refine (fuse_Of.calls k 1 _ _ y107 t110 t111 _ ?side1 ?side2 ?side3 A1.out).mono ?_); (case side1 => exact zg HG HB); (case side2 => repeat (first | exact (Kd.N_reads' HO109.out).2.2 | (with_reducible refine C_alloc ?_ _) | (with_reducible refine C_drewN ?_ _) | (with_reducible refine C_drew ?_))); (case side3 => exact (Kd.N_reads' HO109.out).2.1); rintro e w17 ⟨v112, rfl, ho0, hb⟩; refine ⟨_, rfl, ?_⟩; replace HO109 := Am (Kd.N_elder' (by (with_reducible repeat (first | apply Kd.N_alloc | apply Kd.N_drewN | apply Kd.N_drew)); exact HO109.out) (R_base ho0) hb);have HO113 := Am (R_lower ho0 (below_size (zB HB)));replace HB := Am (below_step (zB HB) hb); (try clear hb); (try clear ho0)) | ((with_reducible refine gate_callee (f := 18) rfl ?_); refine goesL_ (some 17) rfl rfl Tryd.func18 (by kernel_rfl) rfl #[.int .i64 3, .slice none 0 0] rfl zE ?_; (refine (fuse_Chain.calls k 3 _ _ ([] : List (List (S41))) t114 t115 _ ?side1 ?side2 ?side3 A2.out).mono ?_); (case side1 => exact zg HG HB); (case side2 => exact C_nil _ _); (case side3 => exact Nat.le_refl _); rintro e w18 ⟨rfl, hb⟩; refine ⟨_, rfl, ?_⟩; replace HO109 := Am (Kd.N_below (by (with_reducible repeat (first | apply Kd.N_alloc | apply Kd.N_drewN | apply Kd.N_drew)); exact HO109.out) hb);replace HO113 := Am (R_below (zR HO113) hb);replace HB := Am (below_step (zB HB) hb); (try clear hb); obtain ⟨Ao19, co19, eo19⟩ := R_slice HO113.out; subst eo19; have p116 : 0 ≤ (0 : Int) := (by omega); have q116 : 0 < (t110.length : Int) := of_decide_eq_true (by assumption); obtain ⟨ad116, e116, hx116_0, hx116_1, hx116_2⟩ := at_T41 (R_reads' HO113.out).2.2 0 p116 q116; cases e116; have qi116 : (0 < t110.length) = True := eq_true (by omega); (try rw [zZ] at hx116_0); (try rw [zZ] at hx116_1); (try rw [zZ] at hx116_2); replace p116 := eq_true p116; replace q116 := eq_true q116))
      go_ret
      exact ⟨zF, (zB HB)⟩
     ·rw [if_neg c7] at H;have c7b0 : (t114 == 3) = false := beq_eq_false_iff_ne.mpr c7
      have c7b1 : (t114 != 3) = true := bne_iff_ne.mpr c7
      obtain rfl := Option.some.inj H;go_enter Tryd.func14, Tryd.ntmps14
      go_wp2_with (first | ((with_reducible refine gate_dst (N := 8) rfl ?_); (try (refine gate_guard (by rfl) ?_; dsimp only)); refine R_lit k41 _ 41 ?hg (N := 8) ?hd (xs := ([(⟨2, 0, (⟨#[97]⟩ : ByteArray)⟩ : S41), (⟨1, 1, (⟨#[]⟩ : ByteArray)⟩ : S41)] : List (S41))) (inner := [.int .i64 2, .int .i64 0, .string (⟨#[97]⟩ : ByteArray), .int .i64 1, .int .i64 1, .string (⟨#[]⟩ : ByteArray)]) (ok := fun _ => True) (okp := fun _ => True) ?hr ?hp (fun _ hk => hk) trivial (Below.refl _ _) (Nat.le_refl _) (by simp) ?_; (case hd => rfl); (case hg => rfl); (case hr => first | (go_simp; done) | (go_simp; rfl)); (case hp => exact (Reps.c3 (show Kd.M k41 _ _ _ (⟨2, 0, (⟨#[97]⟩ : ByteArray)⟩ : S41) [.int .i64 2, .int .i64 0, .string (⟨#[97]⟩ : ByteArray)] from (k41_mkM _ _ _ (⟨2, 0, (⟨#[97]⟩ : ByteArray)⟩ : S41) )) (Reps.c3 (show Kd.M k41 _ _ _ (⟨1, 1, (⟨#[]⟩ : ByteArray)⟩ : S41) [.int .i64 1, .int .i64 1, .string (⟨#[]⟩ : ByteArray)] from (k41_mkM _ _ _ (⟨1, 1, (⟨#[]⟩ : ByteArray)⟩ : S41) )) (Reps.none _ _)))); intro v102 w20 ho21 hb hg_ hnew_; clear hg_ hnew_; (first | rw [← Ny101.out] at ho21 | (simp only [Int.reduceToNat] at ho21; rw [← Ny101.out] at ho21)); have HO103 := Am (R_lower ho21 (below_size (zB HB)));replace HB := Am (below_step (zB HB) hb); clear hb ho21) | ((with_reducible refine gate_dst (N := 11) rfl ?_); (try (refine gate_guard (by rfl) ?_; dsimp only)); refine R_lit k41 _ 41 ?hg (N := 11) ?hd (xs := ([(⟨3, 1, (⟨#[]⟩ : ByteArray)⟩ : S41), (⟨1, 1, (⟨#[]⟩ : ByteArray)⟩ : S41)] : List (S41))) (inner := [.int .i64 3, .int .i64 1, .string (⟨#[]⟩ : ByteArray), .int .i64 1, .int .i64 1, .string (⟨#[]⟩ : ByteArray)]) (ok := fun _ => True) (okp := fun _ => True) ?hr ?hp (fun _ hk => hk) trivial (Below.refl _ _) (Nat.le_refl _) (by simp) ?_; (case hd => rfl); (case hg => rfl); (case hr => first | (go_simp; done) | (go_simp; rfl)); (case hp => exact (Reps.c3 (show Kd.M k41 _ _ _ (⟨3, 1, (⟨#[]⟩ : ByteArray)⟩ : S41) [.int .i64 3, .int .i64 1, .string (⟨#[]⟩ : ByteArray)] from (k41_mkM _ _ _ (⟨3, 1, (⟨#[]⟩ : ByteArray)⟩ : S41) )) (Reps.c3 (show Kd.M k41 _ _ _ (⟨1, 1, (⟨#[]⟩ : ByteArray)⟩ : S41) [.int .i64 1, .int .i64 1, .string (⟨#[]⟩ : ByteArray)] from (k41_mkM _ _ _ (⟨1, 1, (⟨#[]⟩ : ByteArray)⟩ : S41) )) (Reps.none _ _)))); intro v105 w22 ho23 hb hg_ hnew_; clear hg_ hnew_; (first | rw [← Ny104.out] at ho23 | (simp only [Int.reduceToNat] at ho23; rw [← Ny104.out] at ho23)); have HO106 := Am (R_lower (zn ho23 HO103) (below_size (zB HB)));replace HO103 := Am (zr HO103 ho23 hb);replace HB := Am (below_step (zB HB) hb); clear hb ho23; obtain ⟨Ao24, co24, eo24⟩ := R_slice HO103.out; subst eo24; obtain ⟨Ao25, co25, eo25⟩ := R_slice HO106.out; subst eo25) | ((with_reducible refine gate_dst (N := 12) rfl ?_); (try (refine gate_guard (by rfl) ?_; dsimp only)); refine Kd.N_lit (Kd.slice 41 k41) _ 24 ?hg (N' := 12) ?hd (xs := ([y101, y104] : List (List (S41)))) (inner := [.slice Ao24 y101.length co24, .slice Ao25 y104.length co25]) (ok := (fun _ => True)) (okp := (fun _ => True)) ?hr ?hp (fun _ hk => hk) ((show ∀ k_, w22.heap.size ≤ k_ → (fun _ => True) k_ from fun k_ hk => trivial) _ (Nat.le_refl _)) (Below.refl _ _) (Nat.le_refl _) (by simp) ?_; (case hd => rfl); (case hg => rfl); (case hr => first | (go_simp; done) | (go_simp; rfl)); (case hp => exact (Reps.one (show Kd.FK (Kd.slice 41 k41) _ _ y101 [.slice Ao24 y101.length co24] from (Kd.FK_slice_mk (R_reads' (R_mono (ok' := (fun _ => True)) (HO103.out) (fun k_ hk => trivial))).2.1 (R_F (R_mono (ok' := (fun _ => True)) (HO103.out) (fun k_ hk => trivial))))) (Reps.one (show Kd.FK (Kd.slice 41 k41) _ _ y104 [.slice Ao25 y104.length co25] from (Kd.FK_slice_mk (R_reads' (R_mono (ok' := (fun _ => True)) (HO106.out) (fun k_ hk => trivial))).2.1 (R_F (R_mono (ok' := (fun _ => True)) (HO106.out) (fun k_ hk => trivial))))) (Reps.none _ _)))); intro v108 w26 ho27 hb hg_ hnew_; clear hg_ hnew_; (first | rw [← Ny107.out] at ho27 | (simp only [Int.reduceToNat] at ho27; rw [← Ny107.out] at ho27)); have HO109 := Am (Kd.N_lower ho27 (below_size (zB HB)));replace HB := Am (below_step (zB HB) hb);clear HO103 HO106; clear hb ho27; obtain ⟨Ao28, co28, eo28⟩ := Kd.N_slice HO109.out; subst eo28) | ((with_reducible refine gate_callee (f := 15) rfl ?_); refine goesL_ (some 13) rfl rfl Tryd.func15 (by kernel_rfl) rfl #[.int .i64 1, .slice Ao28 y107.length co28] rfl zE ?_; (with_reducible refine (fuse_Of.calls k 1 _ _ y107 t110 t111 _ ?side1 ?side2 ?side3 A1.out).mono ?_); (case side1 => exact zg HG HB); (case side2 => repeat (first | exact (Kd.N_reads' HO109.out).2.2 | (with_reducible refine C_alloc ?_ _) | (with_reducible refine C_drewN ?_ _) | (with_reducible refine C_drew ?_))); (case side3 => exact (Kd.N_reads' HO109.out).2.1); rintro e w29 ⟨v112, rfl, ho0, hb⟩; refine ⟨_, rfl, ?_⟩; replace HO109 := Am (Kd.N_elder' (by (with_reducible repeat (first | apply Kd.N_alloc | apply Kd.N_drewN | apply Kd.N_drew)); exact HO109.out) (R_base ho0) hb);have HO113 := Am (R_lower ho0 (below_size (zB HB)));replace HB := Am (below_step (zB HB) hb); (try clear hb); (try clear ho0)) | ((with_reducible refine gate_callee (f := 18) rfl ?_); refine goesL_ (some 17) rfl rfl Tryd.func18 (by kernel_rfl) rfl #[.int .i64 3, .slice none 0 0] rfl zE ?_; (refine (fuse_Chain.calls k 3 _ _ ([] : List (List (S41))) t114 t115 _ ?side1 ?side2 ?side3 A2.out).mono ?_); (case side1 => exact zg HG HB); (case side2 => exact C_nil _ _); (case side3 => exact Nat.le_refl _); rintro e w30 ⟨rfl, hb⟩; refine ⟨_, rfl, ?_⟩; replace HO109 := Am (Kd.N_below (by (with_reducible repeat (first | apply Kd.N_alloc | apply Kd.N_drewN | apply Kd.N_drew)); exact HO109.out) hb);replace HO113 := Am (R_below (zR HO113) hb);replace HB := Am (below_step (zB HB) hb); (try clear hb); obtain ⟨Ao31, co31, eo31⟩ := R_slice HO113.out; subst eo31; have p116 : 0 ≤ (0 : Int) := (by omega); have q116 : 0 < (t110.length : Int) := of_decide_eq_true (by assumption); obtain ⟨ad116, e116, hx116_0, hx116_1, hx116_2⟩ := at_T41 (R_reads' HO113.out).2.2 0 p116 q116; cases e116; have qi116 : (0 < t110.length) = True := eq_true (by omega); (try rw [zZ] at hx116_0); (try rw [zZ] at hx116_1); (try rw [zZ] at hx116_2); replace p116 := eq_true p116; replace q116 := eq_true q116))
      go_ret
      exact ⟨zF, (zB HB)⟩
    ·rw [if_neg c6] at H;have c6b0 : (((rd_T41 t110 0).f0) == 1 && (((rd_T41 t110 0).f1) == 1 && ((((rd_T41 t110 0).f2).toList) == ([] : List UInt8)))) = false := by simpa using c6
     (try (have c6b0e : (((rd_T41 t110 0).f0) == 1 && (((rd_T41 t110 0).f1) == 1 && ((((rd_T41 t110 0).f2).toList).isEmpty))) = false := by simpa using c6b0))
     (try (have c6b1 : decide (((rd_T41 t110 0).f0) = 1 && (((rd_T41 t110 0).f1) == 1 && ((((rd_T41 t110 0).f2).toList) == ([] : List UInt8)))) = false := by simpa using c6))
     (try (have c6b2 : (((rd_T41 t110 0).f0) == 1 && (((rd_T41 t110 0).f1) == 1 && ((((rd_T41 t110 0).f2).toList) == ([] : List UInt8)))) = false := by simpa using c6))
     (try (have c6b3 : ¬ (((rd_T41 t110 0).f0) = 1 && (((rd_T41 t110 0).f1) == 1 && ((((rd_T41 t110 0).f2).toList) == ([] : List UInt8)))) := by simpa using c6))
     (try (have c6b4 : ((rd_T41 t110 0).f0) = true := neb_l (a := ((rd_T41 t110 0).f0)) (b := 1 && (((rd_T41 t110 0).f1) == 1 && ((((rd_T41 t110 0).f2).toList) == ([] : List UInt8)))) (v := false) (by first | exact c6 | simpa using c6) (by assumption)))
     (try (have c6b5 : ((rd_T41 t110 0).f0) = false := neb_l (a := ((rd_T41 t110 0).f0)) (b := 1 && (((rd_T41 t110 0).f1) == 1 && ((((rd_T41 t110 0).f2).toList) == ([] : List UInt8)))) (v := true) (by first | exact c6 | simpa using c6) (by assumption)))
     (try (have c6b6 : 1 && (((rd_T41 t110 0).f1) == 1 && ((((rd_T41 t110 0).f2).toList) == ([] : List UInt8))) = true := neb_r (a := ((rd_T41 t110 0).f0)) (b := 1 && (((rd_T41 t110 0).f1) == 1 && ((((rd_T41 t110 0).f2).toList) == ([] : List UInt8)))) (v := false) (by first | exact c6 | simpa using c6) (by assumption)))
     (try (have c6b7 : 1 && (((rd_T41 t110 0).f1) == 1 && ((((rd_T41 t110 0).f2).toList) == ([] : List UInt8))) = false := neb_r (a := ((rd_T41 t110 0).f0)) (b := 1 && (((rd_T41 t110 0).f1) == 1 && ((((rd_T41 t110 0).f2).toList) == ([] : List UInt8)))) (v := true) (by first | exact c6 | simpa using c6) (by assumption)))
     clear c6;obtain rfl := Option.some.inj H;go_enter Tryd.func14, Tryd.ntmps14
     go_wp2_with (first | ((with_reducible refine gate_dst (N := 8) rfl ?_); (try (refine gate_guard (by rfl) ?_; dsimp only)); refine R_lit k41 _ 41 ?hg (N := 8) ?hd (xs := ([(⟨2, 0, (⟨#[97]⟩ : ByteArray)⟩ : S41), (⟨1, 1, (⟨#[]⟩ : ByteArray)⟩ : S41)] : List (S41))) (inner := [.int .i64 2, .int .i64 0, .string (⟨#[97]⟩ : ByteArray), .int .i64 1, .int .i64 1, .string (⟨#[]⟩ : ByteArray)]) (ok := fun _ => True) (okp := fun _ => True) ?hr ?hp (fun _ hk => hk) trivial (Below.refl _ _) (Nat.le_refl _) (by simp) ?_; (case hd => rfl); (case hg => rfl); (case hr => first | (go_simp; done) | (go_simp; rfl)); (case hp => exact (Reps.c3 (show Kd.M k41 _ _ _ (⟨2, 0, (⟨#[97]⟩ : ByteArray)⟩ : S41) [.int .i64 2, .int .i64 0, .string (⟨#[97]⟩ : ByteArray)] from (k41_mkM _ _ _ (⟨2, 0, (⟨#[97]⟩ : ByteArray)⟩ : S41) )) (Reps.c3 (show Kd.M k41 _ _ _ (⟨1, 1, (⟨#[]⟩ : ByteArray)⟩ : S41) [.int .i64 1, .int .i64 1, .string (⟨#[]⟩ : ByteArray)] from (k41_mkM _ _ _ (⟨1, 1, (⟨#[]⟩ : ByteArray)⟩ : S41) )) (Reps.none _ _)))); intro v102 w32 ho33 hb hg_ hnew_; clear hg_ hnew_; (first | rw [← Ny101.out] at ho33 | (simp only [Int.reduceToNat] at ho33; rw [← Ny101.out] at ho33)); have HO103 := Am (R_lower ho33 (below_size (zB HB)));replace HB := Am (below_step (zB HB) hb); clear hb ho33) | ((with_reducible refine gate_dst (N := 11) rfl ?_); (try (refine gate_guard (by rfl) ?_; dsimp only)); refine R_lit k41 _ 41 ?hg (N := 11) ?hd (xs := ([(⟨3, 1, (⟨#[]⟩ : ByteArray)⟩ : S41), (⟨1, 1, (⟨#[]⟩ : ByteArray)⟩ : S41)] : List (S41))) (inner := [.int .i64 3, .int .i64 1, .string (⟨#[]⟩ : ByteArray), .int .i64 1, .int .i64 1, .string (⟨#[]⟩ : ByteArray)]) (ok := fun _ => True) (okp := fun _ => True) ?hr ?hp (fun _ hk => hk) trivial (Below.refl _ _) (Nat.le_refl _) (by simp) ?_; (case hd => rfl); (case hg => rfl); (case hr => first | (go_simp; done) | (go_simp; rfl)); (case hp => exact (Reps.c3 (show Kd.M k41 _ _ _ (⟨3, 1, (⟨#[]⟩ : ByteArray)⟩ : S41) [.int .i64 3, .int .i64 1, .string (⟨#[]⟩ : ByteArray)] from (k41_mkM _ _ _ (⟨3, 1, (⟨#[]⟩ : ByteArray)⟩ : S41) )) (Reps.c3 (show Kd.M k41 _ _ _ (⟨1, 1, (⟨#[]⟩ : ByteArray)⟩ : S41) [.int .i64 1, .int .i64 1, .string (⟨#[]⟩ : ByteArray)] from (k41_mkM _ _ _ (⟨1, 1, (⟨#[]⟩ : ByteArray)⟩ : S41) )) (Reps.none _ _)))); intro v105 w34 ho35 hb hg_ hnew_; clear hg_ hnew_; (first | rw [← Ny104.out] at ho35 | (simp only [Int.reduceToNat] at ho35; rw [← Ny104.out] at ho35)); have HO106 := Am (R_lower (zn ho35 HO103) (below_size (zB HB)));replace HO103 := Am (zr HO103 ho35 hb);replace HB := Am (below_step (zB HB) hb); clear hb ho35; obtain ⟨Ao36, co36, eo36⟩ := R_slice HO103.out; subst eo36; obtain ⟨Ao37, co37, eo37⟩ := R_slice HO106.out; subst eo37) | ((with_reducible refine gate_dst (N := 12) rfl ?_); (try (refine gate_guard (by rfl) ?_; dsimp only)); refine Kd.N_lit (Kd.slice 41 k41) _ 24 ?hg (N' := 12) ?hd (xs := ([y101, y104] : List (List (S41)))) (inner := [.slice Ao36 y101.length co36, .slice Ao37 y104.length co37]) (ok := (fun _ => True)) (okp := (fun _ => True)) ?hr ?hp (fun _ hk => hk) ((show ∀ k_, w34.heap.size ≤ k_ → (fun _ => True) k_ from fun k_ hk => trivial) _ (Nat.le_refl _)) (Below.refl _ _) (Nat.le_refl _) (by simp) ?_; (case hd => rfl); (case hg => rfl); (case hr => first | (go_simp; done) | (go_simp; rfl)); (case hp => exact (Reps.one (show Kd.FK (Kd.slice 41 k41) _ _ y101 [.slice Ao36 y101.length co36] from (Kd.FK_slice_mk (R_reads' (R_mono (ok' := (fun _ => True)) (HO103.out) (fun k_ hk => trivial))).2.1 (R_F (R_mono (ok' := (fun _ => True)) (HO103.out) (fun k_ hk => trivial))))) (Reps.one (show Kd.FK (Kd.slice 41 k41) _ _ y104 [.slice Ao37 y104.length co37] from (Kd.FK_slice_mk (R_reads' (R_mono (ok' := (fun _ => True)) (HO106.out) (fun k_ hk => trivial))).2.1 (R_F (R_mono (ok' := (fun _ => True)) (HO106.out) (fun k_ hk => trivial))))) (Reps.none _ _)))); intro v108 w38 ho39 hb hg_ hnew_; clear hg_ hnew_; (first | rw [← Ny107.out] at ho39 | (simp only [Int.reduceToNat] at ho39; rw [← Ny107.out] at ho39)); have HO109 := Am (Kd.N_lower ho39 (below_size (zB HB)));replace HB := Am (below_step (zB HB) hb);clear HO103 HO106; clear hb ho39; obtain ⟨Ao40, co40, eo40⟩ := Kd.N_slice HO109.out; subst eo40) | ((with_reducible refine gate_callee (f := 15) rfl ?_); refine goesL_ (some 13) rfl rfl Tryd.func15 (by kernel_rfl) rfl #[.int .i64 1, .slice Ao40 y107.length co40] rfl zE ?_; (with_reducible refine (fuse_Of.calls k 1 _ _ y107 t110 t111 _ ?side1 ?side2 ?side3 A1.out).mono ?_); (case side1 => exact zg HG HB); (case side2 => repeat (first | exact (Kd.N_reads' HO109.out).2.2 | (with_reducible refine C_alloc ?_ _) | (with_reducible refine C_drewN ?_ _) | (with_reducible refine C_drew ?_))); (case side3 => exact (Kd.N_reads' HO109.out).2.1); rintro e w41 ⟨v112, rfl, ho0, hb⟩; refine ⟨_, rfl, ?_⟩; replace HO109 := Am (Kd.N_elder' (by (with_reducible repeat (first | apply Kd.N_alloc | apply Kd.N_drewN | apply Kd.N_drew)); exact HO109.out) (R_base ho0) hb);have HO113 := Am (R_lower ho0 (below_size (zB HB)));replace HB := Am (below_step (zB HB) hb); (try clear hb); (try clear ho0)) | ((with_reducible refine gate_callee (f := 18) rfl ?_); refine goesL_ (some 17) rfl rfl Tryd.func18 (by kernel_rfl) rfl #[.int .i64 3, .slice none 0 0] rfl zE ?_; (refine (fuse_Chain.calls k 3 _ _ ([] : List (List (S41))) t114 t115 _ ?side1 ?side2 ?side3 A2.out).mono ?_); (case side1 => exact zg HG HB); (case side2 => exact C_nil _ _); (case side3 => exact Nat.le_refl _); rintro e w42 ⟨rfl, hb⟩; refine ⟨_, rfl, ?_⟩; replace HO109 := Am (Kd.N_below (by (with_reducible repeat (first | apply Kd.N_alloc | apply Kd.N_drewN | apply Kd.N_drew)); exact HO109.out) hb);replace HO113 := Am (R_below (zR HO113) hb);replace HB := Am (below_step (zB HB) hb); (try clear hb); obtain ⟨Ao43, co43, eo43⟩ := R_slice HO113.out; subst eo43; have p116 : 0 ≤ (0 : Int) := (by omega); have q116 : 0 < (t110.length : Int) := of_decide_eq_true (by assumption); obtain ⟨ad116, e116, hx116_0, hx116_1, hx116_2⟩ := at_T41 (R_reads' HO113.out).2.2 0 p116 q116; cases e116; have qi116 : (0 < t110.length) = True := eq_true (by omega); (try rw [zZ] at hx116_0); (try rw [zZ] at hx116_1); (try rw [zZ] at hx116_2); replace p116 := eq_true p116; replace q116 := eq_true q116))
     go_ret
     exact ⟨zF, (zB HB)⟩
   ·rw [if_neg c5] at H;exact absurd H (by simp)
  ·rw [if_neg c4] at H;have c4b0 : ((t110.length : Int) == 1) = false := beq_eq_false_iff_ne.mpr c4
   have c4b1 : ((t110.length : Int) != 1) = true := bne_iff_ne.mpr c4
   obtain rfl := Option.some.inj H;go_enter Tryd.func14, Tryd.ntmps14
   go_wp2_with (first | ((with_reducible refine gate_dst (N := 8) rfl ?_); (try (refine gate_guard (by rfl) ?_; dsimp only)); refine R_lit k41 _ 41 ?hg (N := 8) ?hd (xs := ([(⟨2, 0, (⟨#[97]⟩ : ByteArray)⟩ : S41), (⟨1, 1, (⟨#[]⟩ : ByteArray)⟩ : S41)] : List (S41))) (inner := [.int .i64 2, .int .i64 0, .string (⟨#[97]⟩ : ByteArray), .int .i64 1, .int .i64 1, .string (⟨#[]⟩ : ByteArray)]) (ok := fun _ => True) (okp := fun _ => True) ?hr ?hp (fun _ hk => hk) trivial (Below.refl _ _) (Nat.le_refl _) (by simp) ?_; (case hd => rfl); (case hg => rfl); (case hr => first | (go_simp; done) | (go_simp; rfl)); (case hp => exact (Reps.c3 (show Kd.M k41 _ _ _ (⟨2, 0, (⟨#[97]⟩ : ByteArray)⟩ : S41) [.int .i64 2, .int .i64 0, .string (⟨#[97]⟩ : ByteArray)] from (k41_mkM _ _ _ (⟨2, 0, (⟨#[97]⟩ : ByteArray)⟩ : S41) )) (Reps.c3 (show Kd.M k41 _ _ _ (⟨1, 1, (⟨#[]⟩ : ByteArray)⟩ : S41) [.int .i64 1, .int .i64 1, .string (⟨#[]⟩ : ByteArray)] from (k41_mkM _ _ _ (⟨1, 1, (⟨#[]⟩ : ByteArray)⟩ : S41) )) (Reps.none _ _)))); intro v102 w44 ho45 hb hg_ hnew_; clear hg_ hnew_; (first | rw [← Ny101.out] at ho45 | (simp only [Int.reduceToNat] at ho45; rw [← Ny101.out] at ho45)); have HO103 := Am (R_lower ho45 (below_size (zB HB)));replace HB := Am (below_step (zB HB) hb); clear hb ho45) | ((with_reducible refine gate_dst (N := 11) rfl ?_); (try (refine gate_guard (by rfl) ?_; dsimp only)); refine R_lit k41 _ 41 ?hg (N := 11) ?hd (xs := ([(⟨3, 1, (⟨#[]⟩ : ByteArray)⟩ : S41), (⟨1, 1, (⟨#[]⟩ : ByteArray)⟩ : S41)] : List (S41))) (inner := [.int .i64 3, .int .i64 1, .string (⟨#[]⟩ : ByteArray), .int .i64 1, .int .i64 1, .string (⟨#[]⟩ : ByteArray)]) (ok := fun _ => True) (okp := fun _ => True) ?hr ?hp (fun _ hk => hk) trivial (Below.refl _ _) (Nat.le_refl _) (by simp) ?_; (case hd => rfl); (case hg => rfl); (case hr => first | (go_simp; done) | (go_simp; rfl)); (case hp => exact (Reps.c3 (show Kd.M k41 _ _ _ (⟨3, 1, (⟨#[]⟩ : ByteArray)⟩ : S41) [.int .i64 3, .int .i64 1, .string (⟨#[]⟩ : ByteArray)] from (k41_mkM _ _ _ (⟨3, 1, (⟨#[]⟩ : ByteArray)⟩ : S41) )) (Reps.c3 (show Kd.M k41 _ _ _ (⟨1, 1, (⟨#[]⟩ : ByteArray)⟩ : S41) [.int .i64 1, .int .i64 1, .string (⟨#[]⟩ : ByteArray)] from (k41_mkM _ _ _ (⟨1, 1, (⟨#[]⟩ : ByteArray)⟩ : S41) )) (Reps.none _ _)))); intro v105 w46 ho47 hb hg_ hnew_; clear hg_ hnew_; (first | rw [← Ny104.out] at ho47 | (simp only [Int.reduceToNat] at ho47; rw [← Ny104.out] at ho47)); have HO106 := Am (R_lower (zn ho47 HO103) (below_size (zB HB)));replace HO103 := Am (zr HO103 ho47 hb);replace HB := Am (below_step (zB HB) hb); clear hb ho47; obtain ⟨Ao48, co48, eo48⟩ := R_slice HO103.out; subst eo48; obtain ⟨Ao49, co49, eo49⟩ := R_slice HO106.out; subst eo49) | ((with_reducible refine gate_dst (N := 12) rfl ?_); (try (refine gate_guard (by rfl) ?_; dsimp only)); refine Kd.N_lit (Kd.slice 41 k41) _ 24 ?hg (N' := 12) ?hd (xs := ([y101, y104] : List (List (S41)))) (inner := [.slice Ao48 y101.length co48, .slice Ao49 y104.length co49]) (ok := (fun _ => True)) (okp := (fun _ => True)) ?hr ?hp (fun _ hk => hk) ((show ∀ k_, w46.heap.size ≤ k_ → (fun _ => True) k_ from fun k_ hk => trivial) _ (Nat.le_refl _)) (Below.refl _ _) (Nat.le_refl _) (by simp) ?_; (case hd => rfl); (case hg => rfl); (case hr => first | (go_simp; done) | (go_simp; rfl)); (case hp => exact (Reps.one (show Kd.FK (Kd.slice 41 k41) _ _ y101 [.slice Ao48 y101.length co48] from (Kd.FK_slice_mk (R_reads' (R_mono (ok' := (fun _ => True)) (HO103.out) (fun k_ hk => trivial))).2.1 (R_F (R_mono (ok' := (fun _ => True)) (HO103.out) (fun k_ hk => trivial))))) (Reps.one (show Kd.FK (Kd.slice 41 k41) _ _ y104 [.slice Ao49 y104.length co49] from (Kd.FK_slice_mk (R_reads' (R_mono (ok' := (fun _ => True)) (HO106.out) (fun k_ hk => trivial))).2.1 (R_F (R_mono (ok' := (fun _ => True)) (HO106.out) (fun k_ hk => trivial))))) (Reps.none _ _)))); intro v108 w50 ho51 hb hg_ hnew_; clear hg_ hnew_; (first | rw [← Ny107.out] at ho51 | (simp only [Int.reduceToNat] at ho51; rw [← Ny107.out] at ho51)); have HO109 := Am (Kd.N_lower ho51 (below_size (zB HB)));replace HB := Am (below_step (zB HB) hb);clear HO103 HO106; clear hb ho51; obtain ⟨Ao52, co52, eo52⟩ := Kd.N_slice HO109.out; subst eo52) | ((with_reducible refine gate_callee (f := 15) rfl ?_); refine goesL_ (some 13) rfl rfl Tryd.func15 (by kernel_rfl) rfl #[.int .i64 1, .slice Ao52 y107.length co52] rfl zE ?_; (with_reducible refine (fuse_Of.calls k 1 _ _ y107 t110 t111 _ ?side1 ?side2 ?side3 A1.out).mono ?_); (case side1 => exact zg HG HB); (case side2 => repeat (first | exact (Kd.N_reads' HO109.out).2.2 | (with_reducible refine C_alloc ?_ _) | (with_reducible refine C_drewN ?_ _) | (with_reducible refine C_drew ?_))); (case side3 => exact (Kd.N_reads' HO109.out).2.1); rintro e w53 ⟨v112, rfl, ho0, hb⟩; refine ⟨_, rfl, ?_⟩; replace HO109 := Am (Kd.N_elder' (by (with_reducible repeat (first | apply Kd.N_alloc | apply Kd.N_drewN | apply Kd.N_drew)); exact HO109.out) (R_base ho0) hb);have HO113 := Am (R_lower ho0 (below_size (zB HB)));replace HB := Am (below_step (zB HB) hb); (try clear hb); (try clear ho0)) | ((with_reducible refine gate_callee (f := 18) rfl ?_); refine goesL_ (some 17) rfl rfl Tryd.func18 (by kernel_rfl) rfl #[.int .i64 3, .slice none 0 0] rfl zE ?_; (refine (fuse_Chain.calls k 3 _ _ ([] : List (List (S41))) t114 t115 _ ?side1 ?side2 ?side3 A2.out).mono ?_); (case side1 => exact zg HG HB); (case side2 => exact C_nil _ _); (case side3 => exact Nat.le_refl _); rintro e w54 ⟨rfl, hb⟩; refine ⟨_, rfl, ?_⟩; replace HO109 := Am (Kd.N_below (by (with_reducible repeat (first | apply Kd.N_alloc | apply Kd.N_drewN | apply Kd.N_drew)); exact HO109.out) hb);replace HO113 := Am (R_below (zR HO113) hb);replace HB := Am (below_step (zB HB) hb); (try clear hb); obtain ⟨Ao55, co55, eo55⟩ := R_slice HO113.out; subst eo55))
   go_ret
   exact ⟨zF, (zB HB)⟩
 ·rw [if_neg c3] at H;have c3b0 : (t111 == 0) = false := beq_eq_false_iff_ne.mpr c3
  have c3b1 : (t111 != 0) = true := bne_iff_ne.mpr c3
  obtain rfl := Option.some.inj H;go_enter Tryd.func14, Tryd.ntmps14
  go_wp2_with (first | ((with_reducible refine gate_dst (N := 8) rfl ?_); (try (refine gate_guard (by rfl) ?_; dsimp only)); refine R_lit k41 _ 41 ?hg (N := 8) ?hd (xs := ([(⟨2, 0, (⟨#[97]⟩ : ByteArray)⟩ : S41), (⟨1, 1, (⟨#[]⟩ : ByteArray)⟩ : S41)] : List (S41))) (inner := [.int .i64 2, .int .i64 0, .string (⟨#[97]⟩ : ByteArray), .int .i64 1, .int .i64 1, .string (⟨#[]⟩ : ByteArray)]) (ok := fun _ => True) (okp := fun _ => True) ?hr ?hp (fun _ hk => hk) trivial (Below.refl _ _) (Nat.le_refl _) (by simp) ?_; (case hd => rfl); (case hg => rfl); (case hr => first | (go_simp; done) | (go_simp; rfl)); (case hp => exact (Reps.c3 (show Kd.M k41 _ _ _ (⟨2, 0, (⟨#[97]⟩ : ByteArray)⟩ : S41) [.int .i64 2, .int .i64 0, .string (⟨#[97]⟩ : ByteArray)] from (k41_mkM _ _ _ (⟨2, 0, (⟨#[97]⟩ : ByteArray)⟩ : S41) )) (Reps.c3 (show Kd.M k41 _ _ _ (⟨1, 1, (⟨#[]⟩ : ByteArray)⟩ : S41) [.int .i64 1, .int .i64 1, .string (⟨#[]⟩ : ByteArray)] from (k41_mkM _ _ _ (⟨1, 1, (⟨#[]⟩ : ByteArray)⟩ : S41) )) (Reps.none _ _)))); intro v102 w56 ho57 hb hg_ hnew_; clear hg_ hnew_; (first | rw [← Ny101.out] at ho57 | (simp only [Int.reduceToNat] at ho57; rw [← Ny101.out] at ho57)); have HO103 := Am (R_lower ho57 (below_size (zB HB)));replace HB := Am (below_step (zB HB) hb); clear hb ho57) | ((with_reducible refine gate_dst (N := 11) rfl ?_); (try (refine gate_guard (by rfl) ?_; dsimp only)); refine R_lit k41 _ 41 ?hg (N := 11) ?hd (xs := ([(⟨3, 1, (⟨#[]⟩ : ByteArray)⟩ : S41), (⟨1, 1, (⟨#[]⟩ : ByteArray)⟩ : S41)] : List (S41))) (inner := [.int .i64 3, .int .i64 1, .string (⟨#[]⟩ : ByteArray), .int .i64 1, .int .i64 1, .string (⟨#[]⟩ : ByteArray)]) (ok := fun _ => True) (okp := fun _ => True) ?hr ?hp (fun _ hk => hk) trivial (Below.refl _ _) (Nat.le_refl _) (by simp) ?_; (case hd => rfl); (case hg => rfl); (case hr => first | (go_simp; done) | (go_simp; rfl)); (case hp => exact (Reps.c3 (show Kd.M k41 _ _ _ (⟨3, 1, (⟨#[]⟩ : ByteArray)⟩ : S41) [.int .i64 3, .int .i64 1, .string (⟨#[]⟩ : ByteArray)] from (k41_mkM _ _ _ (⟨3, 1, (⟨#[]⟩ : ByteArray)⟩ : S41) )) (Reps.c3 (show Kd.M k41 _ _ _ (⟨1, 1, (⟨#[]⟩ : ByteArray)⟩ : S41) [.int .i64 1, .int .i64 1, .string (⟨#[]⟩ : ByteArray)] from (k41_mkM _ _ _ (⟨1, 1, (⟨#[]⟩ : ByteArray)⟩ : S41) )) (Reps.none _ _)))); intro v105 w58 ho59 hb hg_ hnew_; clear hg_ hnew_; (first | rw [← Ny104.out] at ho59 | (simp only [Int.reduceToNat] at ho59; rw [← Ny104.out] at ho59)); have HO106 := Am (R_lower (zn ho59 HO103) (below_size (zB HB)));replace HO103 := Am (zr HO103 ho59 hb);replace HB := Am (below_step (zB HB) hb); clear hb ho59; obtain ⟨Ao60, co60, eo60⟩ := R_slice HO103.out; subst eo60; obtain ⟨Ao61, co61, eo61⟩ := R_slice HO106.out; subst eo61) | ((with_reducible refine gate_dst (N := 12) rfl ?_); (try (refine gate_guard (by rfl) ?_; dsimp only)); refine Kd.N_lit (Kd.slice 41 k41) _ 24 ?hg (N' := 12) ?hd (xs := ([y101, y104] : List (List (S41)))) (inner := [.slice Ao60 y101.length co60, .slice Ao61 y104.length co61]) (ok := (fun _ => True)) (okp := (fun _ => True)) ?hr ?hp (fun _ hk => hk) ((show ∀ k_, w58.heap.size ≤ k_ → (fun _ => True) k_ from fun k_ hk => trivial) _ (Nat.le_refl _)) (Below.refl _ _) (Nat.le_refl _) (by simp) ?_; (case hd => rfl); (case hg => rfl); (case hr => first | (go_simp; done) | (go_simp; rfl)); (case hp => exact (Reps.one (show Kd.FK (Kd.slice 41 k41) _ _ y101 [.slice Ao60 y101.length co60] from (Kd.FK_slice_mk (R_reads' (R_mono (ok' := (fun _ => True)) (HO103.out) (fun k_ hk => trivial))).2.1 (R_F (R_mono (ok' := (fun _ => True)) (HO103.out) (fun k_ hk => trivial))))) (Reps.one (show Kd.FK (Kd.slice 41 k41) _ _ y104 [.slice Ao61 y104.length co61] from (Kd.FK_slice_mk (R_reads' (R_mono (ok' := (fun _ => True)) (HO106.out) (fun k_ hk => trivial))).2.1 (R_F (R_mono (ok' := (fun _ => True)) (HO106.out) (fun k_ hk => trivial))))) (Reps.none _ _)))); intro v108 w62 ho63 hb hg_ hnew_; clear hg_ hnew_; (first | rw [← Ny107.out] at ho63 | (simp only [Int.reduceToNat] at ho63; rw [← Ny107.out] at ho63)); have HO109 := Am (Kd.N_lower ho63 (below_size (zB HB)));replace HB := Am (below_step (zB HB) hb);clear HO103 HO106; clear hb ho63; obtain ⟨Ao64, co64, eo64⟩ := Kd.N_slice HO109.out; subst eo64) | ((with_reducible refine gate_callee (f := 15) rfl ?_); refine goesL_ (some 13) rfl rfl Tryd.func15 (by kernel_rfl) rfl #[.int .i64 1, .slice Ao64 y107.length co64] rfl zE ?_; (with_reducible refine (fuse_Of.calls k 1 _ _ y107 t110 t111 _ ?side1 ?side2 ?side3 A1.out).mono ?_); (case side1 => exact zg HG HB); (case side2 => repeat (first | exact (Kd.N_reads' HO109.out).2.2 | (with_reducible refine C_alloc ?_ _) | (with_reducible refine C_drewN ?_ _) | (with_reducible refine C_drew ?_))); (case side3 => exact (Kd.N_reads' HO109.out).2.1); rintro e w65 ⟨v112, rfl, ho0, hb⟩; refine ⟨_, rfl, ?_⟩; replace HO109 := Am (Kd.N_elder' (by (with_reducible repeat (first | apply Kd.N_alloc | apply Kd.N_drewN | apply Kd.N_drew)); exact HO109.out) (R_base ho0) hb);have HO113 := Am (R_lower ho0 (below_size (zB HB)));replace HB := Am (below_step (zB HB) hb); (try clear hb); (try clear ho0)) | ((with_reducible refine gate_callee (f := 18) rfl ?_); refine goesL_ (some 17) rfl rfl Tryd.func18 (by kernel_rfl) rfl #[.int .i64 3, .slice none 0 0] rfl zE ?_; (refine (fuse_Chain.calls k 3 _ _ ([] : List (List (S41))) t114 t115 _ ?side1 ?side2 ?side3 A2.out).mono ?_); (case side1 => exact zg HG HB); (case side2 => exact C_nil _ _); (case side3 => exact Nat.le_refl _); rintro e w66 ⟨rfl, hb⟩; refine ⟨_, rfl, ?_⟩; replace HO109 := Am (Kd.N_below (by (with_reducible repeat (first | apply Kd.N_alloc | apply Kd.N_drewN | apply Kd.N_drew)); exact HO109.out) hb);replace HO113 := Am (R_below (zR HO113) hb);replace HB := Am (below_step (zB HB) hb); (try clear hb)))
  go_ret
  exact ⟨zF, (zB HB)⟩
end Go.Proofs.YthhgobiaecehbaaDoor.F
end
section
namespace Go.Proofs.YthhgobiaecehbaaDoor.F
open Go.RowKit Go.Proofs.YthhgobiaecehbaaDoorW.PrintWords Go.Proofs.YthhgobiaecehbaaDoorW.PrintLast Go.Proofs.YthhgobiaecehbaaDoorW.PrintMore
attribute [local go_sem] max2_int min2_int max_two min_two max_three min_three max_four min_four cell_setCell_isSome
set_option linter.unusedVariables false
set_option linter.unusedSimpArgs false
open Kd
def epitomeref01_size.j0 : Nat → Int → Bool → Option (Int)
  | 0, _, _ => none
  | k + 1, x0, x16 => if x16 = true then (some 0) else (if x0 < 128 then (some 1) else (if x0 < 2048 then (some 2) else (if x0 < 65536 then (some 3) else (some 4))))
def epitomeref01_size.f (k : Nat) (a0 : Int) : Option (Int) := if a0 < 0 then (epitomeref01_size.j0 k a0 true) else (if a0 > 1114111 then (epitomeref01_size.j0 k a0 true) else (if a0 ≥ 55296 then (epitomeref01_size.j0 k a0 (decide (a0 ≤ 57343))) else (epitomeref01_size.j0 k a0 false)))
theorem epitomeref01_size.mono_l : ∀ k, (∀ y0 y1, LeO (epitomeref01_size.j0 k y0 y1) (epitomeref01_size.j0 (k + 1) y0 y1))
  | 0 => fun _ _ r h => by simp [epitomeref01_size.j0] at h
  | k + 1 => by
    have ih0 := epitomeref01_size.mono_l k
    · intro y0 y1
      unfold epitomeref01_size.j0
      repeat' first
      | (with_reducible exact ih0 _ _)
      | (with_reducible exact LeO.refl _)
      | (with_reducible exact LeO.none _)
      | (with_reducible refine LeO.ite ?_ ?_)
      | (with_reducible refine LeO.bind ?_ (fun _ => ?_))
      | exact ih0 _ _
      | exact LeO.none _
      | refine LeO.ite ?_ ?_
      | refine LeO.bind ?_ (fun _ => ?_)
theorem epitomeref01_size.mono : ∀ a0 k, LeO (epitomeref01_size.f k a0) (epitomeref01_size.f (k + 1) a0) := by
  intro a0 k
  have ih0 := epitomeref01_size.mono_l k
  unfold epitomeref01_size.f
  repeat' first
      | (with_reducible exact ih0 _ _)
      | (with_reducible exact LeO.refl _)
      | (with_reducible exact LeO.none _)
      | (with_reducible refine LeO.ite ?_ ?_)
      | (with_reducible refine LeO.bind ?_ (fun _ => ?_))
      | exact ih0 _ _
      | exact LeO.none _
      | refine LeO.ite ?_ ?_
      | refine LeO.bind ?_ (fun _ => ?_)
set_option maxHeartbeats 40000000 in
set_option maxRecDepth 100000 in
theorem epitomeref01_size.calls (k : Nat) (a0 : Int) (r : Int) (w : World) (h : epitomeref01_size.f k a0 = some r) :
  Calls Tryd.prog 78 #[.int .i64 a0] w fun e w' => e = .returned (.int .i64 r) ∧ Drawn0 w w' := by
 have H : (if a0 < 0 then (epitomeref01_size.j0 k a0 true) else (if a0 > 1114111 then (epitomeref01_size.j0 k a0 true) else (if a0 ≥ 55296 then (epitomeref01_size.j0 k a0 (decide (a0 ≤ 57343))) else (epitomeref01_size.j0 k a0 false)))) = some r := h
 clear h;have HC2 := Am H;clear H;go_enter Tryd.func78, Tryd.ntmps78
 go_upto_region 1 with (fail)
 go_cut [16] (fun v16 wc => ∃ (kq : Nat) (x16_1 : Bool), v16 = .bool x16_1 ∧ Aside0 (epitomeref01_size.j0 kq a0 x16_1 = some r) ∧ Aside0 (kq ≤ k) ∧ Drawn0 w wc)
 case first =>
  have H := HC2.out;clear HC2;by_cases c3 : a0 < 0
  ·rw [if_pos c3] at H;have c3b0 : decide (a0 < 0) = true := decide_eq_true c3
   clear c3;(first | rw [c3b0] | (simp only [i64_w, i32_w]; rw [c3b0]) | skip)
   have H' := Am H
   clear H;go_wp2
   go_meet
   case rel => exact ⟨_, (true), zG, H', ⟨by first | omega | exact Nat.le_refl _⟩, zD⟩
  ·rw [if_neg c3] at H;have c3b0 : decide (a0 < 0) = false := decide_eq_false c3
   clear c3;(first | rw [c3b0] | (simp only [i64_w, i32_w]; rw [c3b0]) | skip)
   by_cases c4 : a0 > 1114111
   ·rw [if_pos c4] at H;have c4b0 : decide (1114111 < a0) = true := decide_eq_true c4
    clear c4;have H' := Am H
    clear H;go_wp2
    go_meet
    case rel => exact ⟨_, (true), zG, H', ⟨by first | omega | exact Nat.le_refl _⟩, zD⟩
   ·rw [if_neg c4] at H;have c4b0 : decide (1114111 < a0) = false := decide_eq_false c4
    clear c4;by_cases c5 : a0 ≥ 55296
    ·rw [if_pos c5] at H;have c5b0 : decide (55296 ≤ a0) = true := decide_eq_true c5
     clear c5;have H' := Am H
     clear H;go_wp2
     go_meet
     case rel => exact ⟨_, (decide (a0 ≤ 57343)), zG, H', ⟨by first | omega | exact Nat.le_refl _⟩, zD⟩
    ·rw [if_neg c5] at H;have c5b0 : decide (55296 ≤ a0) = false := decide_eq_false c5
     clear c5;have H' := Am H
     clear H;go_wp2
     go_meet
     case rel => exact ⟨_, (false), zG, H', ⟨by first | omega | exact Nat.le_refl _⟩, zD⟩
 case rest =>
  clear HC2;(try clear p2);(try clear c3);(try clear c3b0);(try clear c4);(try clear c4b0);(try clear c5);(try clear c5b0);obtain ⟨kq, x16_1, rfl, HA, HJ1, ⟨mc1, rfl⟩⟩ := hcut
  cases kq with
  | zero => exact absurd HA.out (by simp [epitomeref01_size.j0])
  | succ kj1 =>
   have H := HA.out;clear HA;simp only [epitomeref01_size.j0] at H
   by_cases c6 : x16_1 = true
   ·subst c6
    have H1 : (some 0) = some r := by rw [if_pos rfl] at H; exact H
    clear H;have H := H1
    clear H1;obtain rfl := Option.some.inj H;go_wp2
    go_ret
    exact ⟨zG, zD⟩
   ·replace c6 := Bool.eq_false_iff.mpr c6
    subst c6
    have H1 : (if a0 < 128 then (some 1) else (if a0 < 2048 then (some 2) else (if a0 < 65536 then (some 3) else (some 4)))) = some r := by rw [if_neg (show ¬ (false = true) by decide)] at H; exact H
    clear H;have H := H1
    clear H1;by_cases c7 : a0 < 128
    ·rw [if_pos c7] at H;have c7b0 : decide (a0 < 128) = true := decide_eq_true c7
     clear c7;obtain rfl := Option.some.inj H;go_wp2
     go_ret
     exact ⟨zG, zD⟩
    ·rw [if_neg c7] at H;have c7b0 : decide (a0 < 128) = false := decide_eq_false c7
     clear c7;by_cases c8 : a0 < 2048
     ·rw [if_pos c8] at H;have c8b0 : decide (a0 < 2048) = true := decide_eq_true c8
      clear c8;obtain rfl := Option.some.inj H;go_wp2
      go_ret
      exact ⟨zG, zD⟩
     ·rw [if_neg c8] at H;have c8b0 : decide (a0 < 2048) = false := decide_eq_false c8
      clear c8;by_cases c9 : a0 < 65536
      ·rw [if_pos c9] at H;have c9b0 : decide (a0 < 65536) = true := decide_eq_true c9
       clear c9;obtain rfl := Option.some.inj H;go_wp2
       go_ret
       exact ⟨zG, zD⟩
      ·rw [if_neg c9] at H;have c9b0 : decide (a0 < 65536) = false := decide_eq_false c9
       clear c9;obtain rfl := Option.some.inj H;go_wp2
       go_ret
       exact ⟨zG, zD⟩
end Go.Proofs.YthhgobiaecehbaaDoor.F
end
section
namespace Go.Proofs.YthhgobiaecehbaaDoor.F
open Go.RowKit Go.Proofs.YthhgobiaecehbaaDoorW.PrintWords Go.Proofs.YthhgobiaecehbaaDoorW.PrintLast Go.Proofs.YthhgobiaecehbaaDoorW.PrintMore
attribute [local go_sem] max2_int min2_int max_two min_two max_three min_three max_four min_four cell_setCell_isSome
set_option linter.unusedVariables false
set_option linter.unusedSimpArgs false
open Kd
def epitomeref01_Of.l0 : Nat → List Int → List Int → Int → Option (ByteArray)
  | 0, _, _, _ => none
  | k + 1, x0, x3, x4 => if x4 < (x0.length : Int) then (if 0 ≤ x4 then ((epitomeref01_size.f k (wrap64 (rd x0 x4))).bind fun t105 => (if t105 = 1 then (if x3.length < 140737488355328 then (epitomeref01_Of.l0 k x0 (x3 ++ [(wrap64 (rd x0 x4)) % 256]) (wrap64 (x4 + 1))) else (none)) else (if t105 = 2 then ((some (([(wrap64 (192 + (wrap64 (Int.tdiv (wrap64 (rd x0 x4)) 64)))) % 256, (wrap64 (128 + (Int.tmod (wrap64 (rd x0 x4)) 64))) % 256] : List Int) : List Int)).bind fun y109 => (if x3.length + y109.length < 140737488355328 then (epitomeref01_Of.l0 k x0 (x3 ++ y109) (wrap64 (x4 + 1))) else (none))) else (if t105 = 3 then ((some (([(wrap64 (224 + (wrap64 (Int.tdiv (wrap64 (rd x0 x4)) 4096)))) % 256, (wrap64 (128 + (Int.tmod (wrap64 (Int.tdiv (wrap64 (rd x0 x4)) 64)) 64))) % 256, (wrap64 (128 + (Int.tmod (wrap64 (rd x0 x4)) 64))) % 256] : List Int) : List Int)).bind fun y115 => (if x3.length + y115.length < 140737488355328 then (epitomeref01_Of.l0 k x0 (x3 ++ y115) (wrap64 (x4 + 1))) else (none))) else (if t105 = 4 then ((some (([(wrap64 (240 + (wrap64 (Int.tdiv (wrap64 (rd x0 x4)) 262144)))) % 256, (wrap64 (128 + (Int.tmod (wrap64 (Int.tdiv (wrap64 (rd x0 x4)) 4096)) 64))) % 256, (wrap64 (128 + (Int.tmod (wrap64 (Int.tdiv (wrap64 (rd x0 x4)) 64)) 64))) % 256, (wrap64 (128 + (Int.tmod (wrap64 (rd x0 x4)) 64))) % 256] : List Int) : List Int)).bind fun y121 => (if x3.length + y121.length < 140737488355328 then (epitomeref01_Of.l0 k x0 (x3 ++ y121) (wrap64 (x4 + 1))) else (none))) else (epitomeref01_Of.l0 k x0 x3 (wrap64 (x4 + 1)))))))) else (none)) else (some (strOfNums x3))
def epitomeref01_Of.f (k : Nat) (l0 : List Int) : Option (ByteArray) := epitomeref01_Of.l0 k l0 (([] : List Int)) 0
theorem epitomeref01_Of.mono_l : ∀ k, (∀ y0 y1 y2, LeO (epitomeref01_Of.l0 k y0 y1 y2) (epitomeref01_Of.l0 (k + 1) y0 y1 y2))
  | 0 => fun _ _ _ r h => by simp [epitomeref01_Of.l0] at h
  | k + 1 => by
    have ih0 := epitomeref01_Of.mono_l k
    · intro y0 y1 y2
      unfold epitomeref01_Of.l0
      repeat' first
      | (with_reducible exact ih0 _ _ _)
      | (with_reducible exact epitomeref01_size.mono _ _)
      | (with_reducible exact LeO.refl _)
      | (with_reducible exact LeO.none _)
      | (with_reducible refine LeO.ite ?_ ?_)
      | (with_reducible refine LeO.bind ?_ (fun _ => ?_))
      | exact ih0 _ _ _
      | exact epitomeref01_size.mono _ _
      | exact LeO.none _
      | refine LeO.ite ?_ ?_
      | refine LeO.bind ?_ (fun _ => ?_)
theorem epitomeref01_Of.mono : ∀ a0 k, LeO (epitomeref01_Of.f k a0) (epitomeref01_Of.f (k + 1) a0) := by
  intro a0 k
  have ih0 := epitomeref01_Of.mono_l k
  unfold epitomeref01_Of.f
  repeat' first
      | (with_reducible exact ih0 _ _ _)
      | (with_reducible exact epitomeref01_size.mono _ _)
      | (with_reducible exact LeO.refl _)
      | (with_reducible exact LeO.none _)
      | (with_reducible refine LeO.ite ?_ ?_)
      | (with_reducible refine LeO.bind ?_ (fun _ => ?_))
      | exact ih0 _ _ _
      | exact epitomeref01_size.mono _ _
      | exact LeO.none _
      | refine LeO.ite ?_ ?_
      | refine LeO.bind ?_ (fun _ => ?_)
set_option maxHeartbeats 40000000 in
set_option maxRecDepth 100000 in
theorem epitomeref01_Of.calls (k : Nat) (A0 : Option Addr) (c0 : Nat) (l0 : List Int) (r : ByteArray) (w : World) (hr0 : Kd.C (Kd.int .i32) w A0 l0.length l0) (hc0 : l0.length ≤ c0) (h : epitomeref01_Of.f k l0 = some r) :
  Calls Tryd.prog 51 #[.slice A0 l0.length c0] w fun e w' => e = .returned (.string r) ∧ Below w.heap.size w w' := by
 have HR0 := Am hr0;have HC0 := Am hc0;clear hr0 hc0;have HB := Am (Below.refl w.heap.size w)
 have H : (epitomeref01_Of.l0 k l0 (([] : List Int)) 0) = some r := h
 clear h;obtain ⟨y101, hy101⟩ : ∃ y_ : List Int, y_ = (([] : List Int)) := ⟨_, rfl⟩
 replace H : (epitomeref01_Of.l0 k l0 y101 0) = some r := by first | (rw [hy101]; with_reducible exact H) | (have H2_ := (Option.bind_some _ _).symm.trans H; rw [hy101]; with_reducible exact H2_) | (have H2_ := (Option.bind_some _ _).symm.trans H; with_reducible exact H2_) | with_reducible exact H | (rw [hy101]; exact H) | exact H
 have Ny101 := Am hy101;clear hy101;have H' := Am H
 clear H;go_enter Tryd.func51, Tryd.ntmps51
 go_wp2_with (first | ((with_reducible refine gate_dst (N := 6) rfl ?_); refine R_lit (Kd.int .u8) _ 5 ?hg (N := 6) ?hd (xs := ([] : List Int)) (inner := []) (ok := fun _ => True) (okp := fun _ => True) ?hr ?hp (fun _ hk => hk) trivial (Below.refl _ _) (Nat.le_refl _) (by simp) ?_; (case hd => rfl); (case hg => rfl); (case hr => first | (go_simp; done) | (go_simp; rfl)); (case hp => exact (Reps.none _ _)); intro v102 w2 ho3 hb hg_ hnew_; clear hg_ hnew_; (first | rw [← Ny101.out] at ho3 | (simp only [Int.reduceToNat] at ho3; rw [← Ny101.out] at ho3)); have HO103 := Am (R_lower ho3 (below_size (zB HB)));replace HB := Am (below_step (zB HB) hb); clear hb ho3))
 go_loopg [3, 4] k (fun kq v3 v4 w' => ∃ (x3_1 : List Int) (x4_1 : Int), v4 = .int .i64 x4_1 ∧ Aside0 (epitomeref01_Of.l0 kq l0 x3_1 x4_1 = some r) ∧ Aside0 (kq ≤ k) ∧ Aside0 (Kd.R (Kd.int .u8) 5 w' w.heap.size (fun _ => True) v3 x3_1) ∧ Aside0 (Below w.heap.size w w'))
 case atStart => exact ⟨(y101), (0), zG, H', ⟨Nat.le_refl _⟩, ⟨(zR HO103)⟩, ⟨(zB HB)⟩⟩
 case round =>
  clear H';(try clear p2);obtain ⟨x3_1, x4_1, rfl, HA, HK1, HO_3, HB⟩ := hrel
  cases gk with
  | zero => exact absurd HA.out (by simp [epitomeref01_Of.l0])
  | succ k1 =>
   have H := HA.out;clear HA;simp only [epitomeref01_Of.l0] at H
   by_cases c4 : x4_1 < (l0.length : Int)
   ·rw [if_pos c4] at H;have c4b0 : decide (x4_1 < (l0.length : Int)) = true := decide_eq_true c4
    clear c4;by_cases c5 : 0 ≤ x4_1
    ·rw [if_pos c5] at H;have c5b0 : decide (0 ≤ x4_1) = true := decide_eq_true c5
     clear c5;replace H := Option.bind_eq_some_iff.mp H;obtain ⟨t105, A60, H⟩ := H;have A6 := Am A60;clear A60;by_cases c7 : t105 = 1
     ·rw [if_pos c7] at H;have c7b0 : (t105 == 1) = true := beq_iff_eq.mpr c7
      have c7b1 : (t105 != 1) = false := bne_eq_false_iff_eq.mpr c7
      clear c7;by_cases c8 : x3_1.length < 140737488355328
      ·rw [if_pos c8] at H;have LMc8 := Am c8;clear c8;obtain ⟨y106, hy106⟩ : ∃ y_ : List Int, y_ = (x3_1 ++ [(wrap64 (rd l0 x4_1)) % 256]) := ⟨_, rfl⟩
       replace H : (epitomeref01_Of.l0 k1 l0 y106 (wrap64 (x4_1 + 1))) = some r := by first | (rw [hy106]; with_reducible exact H) | (have H2_ := (Option.bind_some _ _).symm.trans H; rw [hy106]; with_reducible exact H2_) | (have H2_ := (Option.bind_some _ _).symm.trans H; with_reducible exact H2_) | with_reducible exact H | (rw [hy106]; exact H) | exact H
       have Ny106 := Am hy106;clear hy106;have H' := Am H
       clear H;have p104 : 0 ≤ (x4_1 : Int) := of_decide_eq_true (by assumption)
       have q104 : x4_1 < (l0.length : Int) := of_decide_eq_true (by assumption)
       obtain ⟨ad104, e104, hx104_0⟩ := Kd.at_int HR0.out x4_1 p104 q104
       cases e104
       replace hx104_0 := (HB.out.cell (World.block_lt_of_cell? w _ hx104_0)).trans hx104_0
       replace p104 := eq_true p104;replace q104 := eq_true q104;go_wp2_with (first | ((with_reducible refine gate_callee (f := 78) rfl ?_); refine goesL_ (some 19) rfl rfl Tryd.func78 (by kernel_rfl) rfl #[.int .i64 (wrap64 (rd l0 x4_1))] rfl zE ?_; (with_reducible refine (epitomeref01_size.calls k1 (wrap64 (rd l0 x4_1)) t105 _ A6.out).mono ?_); rintro e w' ⟨rfl, ⟨nd, rfl⟩⟩; refine ⟨_, rfl, ?_⟩) | ((with_reducible refine gate_builtin (b := .append) (xs := #[.tmp 22, .tmp 25]) rfl ?_); at_builtin; refine R_append (Kd.int .u8) (w0 := w) w.heap.size rfl (.tmp 22) (.tmp 25) 91 5 (.int .u8 0) 1 rfl Tryd.underlying91 info5 rfl (by decide) (by omega) u3 x3_1 ((wrap64 (rd l0 x4_1)) % 256) [.int .u8 ((wrap64 (rd l0 x4_1)) % 256)] (fun _ => True) (fun _ => False) rfl rfl ?aP (fun _ hk => hk.elim) ?aF ?aO ?aB ?aS ?aL ?_; (case aP => exact rfl); (case aB => exact (zB HB)); (case aF => exact (fun _ _ => trivial)); (case aO => exact (zR HO_3)); (case aS => exact (below_size (zB HB))); (case aL => have := LMc8.out; omega); intro v107 w9 ho hb hg hat; rw [← Ny106.out] at ho; replace HB := Am (hb);have HO108 := Am (ho);clear HO_3; clear ho hb hg hat))
       go_roundg k1
       case measure => have := HK1.out; omega
       case rel => exact ⟨(y106), (wrap64 (x4_1 + 1)), zG, H', ⟨by have := HK1.out; omega⟩, ⟨(zR HO108)⟩, ⟨(zB HB)⟩⟩
      ·rw [if_neg c8] at H;exact absurd H (by simp)
     ·rw [if_neg c7] at H;have c7b0 : (t105 == 1) = false := beq_eq_false_iff_ne.mpr c7
      have c7b1 : (t105 != 1) = true := bne_iff_ne.mpr c7
      by_cases c10 : t105 = 2
      ·rw [if_pos c10] at H;have c10b0 : (t105 == 2) = true := beq_iff_eq.mpr c10
       have c10b1 : (t105 != 2) = false := bne_eq_false_iff_eq.mpr c10
       clear c10;obtain ⟨y109, hy109⟩ : ∃ y_ : List Int, y_ = (([(wrap64 (192 + (wrap64 (Int.tdiv (wrap64 (rd l0 x4_1)) 64)))) % 256, (wrap64 (128 + (Int.tmod (wrap64 (rd l0 x4_1)) 64))) % 256] : List Int)) := ⟨_, rfl⟩
       replace H : (if x3_1.length + y109.length < 140737488355328 then (epitomeref01_Of.l0 k1 l0 (x3_1 ++ y109) (wrap64 (x4_1 + 1))) else (none)) = some r := by first | (rw [hy109]; with_reducible exact H) | (have H2_ := (Option.bind_some _ _).symm.trans H; rw [hy109]; with_reducible exact H2_) | (have H2_ := (Option.bind_some _ _).symm.trans H; with_reducible exact H2_) | with_reducible exact H | (rw [hy109]; exact H) | exact H
       have Ny109 := Am hy109;clear hy109;by_cases c11 : x3_1.length + y109.length < 140737488355328
       ·rw [if_pos c11] at H;have LMc11 := Am c11;clear c11;obtain ⟨y112, hy112⟩ : ∃ y_ : List Int, y_ = (x3_1 ++ y109) := ⟨_, rfl⟩
        replace H : (epitomeref01_Of.l0 k1 l0 y112 (wrap64 (x4_1 + 1))) = some r := by first | (rw [hy112]; with_reducible exact H) | (have H2_ := (Option.bind_some _ _).symm.trans H; rw [hy112]; with_reducible exact H2_) | (have H2_ := (Option.bind_some _ _).symm.trans H; with_reducible exact H2_) | with_reducible exact H | (rw [hy112]; exact H) | exact H
        have Ny112 := Am hy112;clear hy112;have H' := Am H
        clear H;have p104 : 0 ≤ (x4_1 : Int) := of_decide_eq_true (by assumption)
        have q104 : x4_1 < (l0.length : Int) := of_decide_eq_true (by assumption)
        obtain ⟨ad104, e104, hx104_0⟩ := Kd.at_int HR0.out x4_1 p104 q104
        cases e104
        replace hx104_0 := (HB.out.cell (World.block_lt_of_cell? w _ hx104_0)).trans hx104_0
        replace p104 := eq_true p104;replace q104 := eq_true q104;go_wp2_with (first | ((with_reducible refine gate_callee (f := 78) rfl ?_); refine goesL_ (some 19) rfl rfl Tryd.func78 (by kernel_rfl) rfl #[.int .i64 (wrap64 (rd l0 x4_1))] rfl zE ?_; (with_reducible refine (epitomeref01_size.calls k1 (wrap64 (rd l0 x4_1)) t105 _ A6.out).mono ?_); rintro e w' ⟨rfl, ⟨nd, rfl⟩⟩; refine ⟨_, rfl, ?_⟩) | ((with_reducible refine gate_dst (N := 38) rfl ?_); refine R_lit (Kd.int .u8) _ 5 ?hg (N := 38) ?hd (xs := ([(wrap64 (192 + (wrap64 (Int.tdiv (wrap64 (rd l0 x4_1)) 64)))) % 256, (wrap64 (128 + (Int.tmod (wrap64 (rd l0 x4_1)) 64))) % 256] : List Int)) (inner := [.int .u8 ((wrap64 (192 + (wrap64 (Int.tdiv (wrap64 (rd l0 x4_1)) 64)))) % 256), .int .u8 ((wrap64 (128 + (Int.tmod (wrap64 (rd l0 x4_1)) 64))) % 256)]) (ok := fun _ => True) (okp := fun _ => True) ?hr ?hp (fun _ hk => hk) trivial (Below.refl _ _) (Nat.le_refl _) (by simp) ?_; (case hd => rfl); (case hg => rfl); (case hr => first | (go_simp; done) | (go_simp; rfl)); (case hp => exact (Reps.one (show Kd.M (Kd.int .u8) _ _ _ ((wrap64 (192 + (wrap64 (Int.tdiv (wrap64 (rd l0 x4_1)) 64)))) % 256) [.int .u8 ((wrap64 (192 + (wrap64 (Int.tdiv (wrap64 (rd l0 x4_1)) 64)))) % 256)] from rfl) (Reps.one (show Kd.M (Kd.int .u8) _ _ _ ((wrap64 (128 + (Int.tmod (wrap64 (rd l0 x4_1)) 64))) % 256) [.int .u8 ((wrap64 (128 + (Int.tmod (wrap64 (rd l0 x4_1)) 64))) % 256)] from rfl) (Reps.none _ _)))); intro v110 w12 ho13 hb hg_ hnew_; clear hg_ hnew_; (first | rw [← Ny109.out] at ho13 | (simp only [Int.reduceToNat] at ho13; rw [← Ny109.out] at ho13)); have HO111 := Am (R_lower (zn ho13 HO_3) (below_size (zB HB)));replace HO_3 := Am (zr HO_3 ho13 hb);replace HB := Am (below_step (zB HB) hb); clear hb ho13; obtain ⟨Ao15, co15, eo15⟩ := R_slice HO111.out; subst eo15) | ((with_reducible refine gate_builtin (b := .append) (xs := #[.tmp 29, .tmp 38]) rfl ?_); at_builtin; refine R_append_rows (Kd.int .u8) (w0 := w) w.heap.size rfl (.tmp 29) (.tmp 38) 91 5 (.int .u8 0) 1 rfl Tryd.underlying91 info5 rfl (by decide) (by omega) u3 x3_1 y109 _ _ _ (fun k_ => some k_ ≠ (.slice Ao15 y109.length co15 : Value).ownBlock) (fun _ => False) rfl rfl ?aO ?aR (fun _ _ h => h) (fun _ h => h.elim) ?aF ?aB ?aS ?aL ?_; (case aR => exact zI (R_reads' HO111.out).2.2); (case aB => exact (zB HB)); (case aF => exact (fun k_ hk => Kd.fresh' (R_lt (zR HO111)) k_ hk)); (case aO => exact (by (with_reducible repeat (first | apply R_alloc | apply R_drewN | apply R_drew)); exact R_mono HO_3.out (fun _ hk => hk.2))); (case aS => exact (below_size (zB HB))); (case aL => have := LMc11.out; omega); intro v113 w14 ho hb hg hat; rw [← Ny112.out] at ho; replace HO111 := Am (R_after (ok := (fun _ => True)) (zR HO111) hg hat);replace HB := Am (hb);have HO114 := Am (ho);clear HO_3; clear ho hb hg hat))
        go_roundg k1
        case measure => have := HK1.out; omega
        case rel => exact ⟨(y112), (wrap64 (x4_1 + 1)), zG, H', ⟨by have := HK1.out; omega⟩, ⟨by (with_reducible repeat (first | apply R_alloc | apply R_drewN | apply R_drew)); exact R_mono HO114.out (fun _ hk => trivial)⟩, ⟨(zB HB)⟩⟩
       ·rw [if_neg c11] at H;exact absurd H (by simp)
      ·rw [if_neg c10] at H;have c10b0 : (t105 == 2) = false := beq_eq_false_iff_ne.mpr c10
       have c10b1 : (t105 != 2) = true := bne_iff_ne.mpr c10
       by_cases c16 : t105 = 3
       ·rw [if_pos c16] at H;have c16b0 : (t105 == 3) = true := beq_iff_eq.mpr c16
        have c16b1 : (t105 != 3) = false := bne_eq_false_iff_eq.mpr c16
        clear c16;obtain ⟨y115, hy115⟩ : ∃ y_ : List Int, y_ = (([(wrap64 (224 + (wrap64 (Int.tdiv (wrap64 (rd l0 x4_1)) 4096)))) % 256, (wrap64 (128 + (Int.tmod (wrap64 (Int.tdiv (wrap64 (rd l0 x4_1)) 64)) 64))) % 256, (wrap64 (128 + (Int.tmod (wrap64 (rd l0 x4_1)) 64))) % 256] : List Int)) := ⟨_, rfl⟩
        replace H : (if x3_1.length + y115.length < 140737488355328 then (epitomeref01_Of.l0 k1 l0 (x3_1 ++ y115) (wrap64 (x4_1 + 1))) else (none)) = some r := by first | (rw [hy115]; with_reducible exact H) | (have H2_ := (Option.bind_some _ _).symm.trans H; rw [hy115]; with_reducible exact H2_) | (have H2_ := (Option.bind_some _ _).symm.trans H; with_reducible exact H2_) | with_reducible exact H | (rw [hy115]; exact H) | exact H
        have Ny115 := Am hy115;clear hy115;by_cases c17 : x3_1.length + y115.length < 140737488355328
        ·rw [if_pos c17] at H;have LMc17 := Am c17;clear c17;obtain ⟨y118, hy118⟩ : ∃ y_ : List Int, y_ = (x3_1 ++ y115) := ⟨_, rfl⟩
         replace H : (epitomeref01_Of.l0 k1 l0 y118 (wrap64 (x4_1 + 1))) = some r := by first | (rw [hy118]; with_reducible exact H) | (have H2_ := (Option.bind_some _ _).symm.trans H; rw [hy118]; with_reducible exact H2_) | (have H2_ := (Option.bind_some _ _).symm.trans H; with_reducible exact H2_) | with_reducible exact H | (rw [hy118]; exact H) | exact H
         have Ny118 := Am hy118;clear hy118;have H' := Am H
         clear H;have p104 : 0 ≤ (x4_1 : Int) := of_decide_eq_true (by assumption)
         have q104 : x4_1 < (l0.length : Int) := of_decide_eq_true (by assumption)
         obtain ⟨ad104, e104, hx104_0⟩ := Kd.at_int HR0.out x4_1 p104 q104
         cases e104
         replace hx104_0 := (HB.out.cell (World.block_lt_of_cell? w _ hx104_0)).trans hx104_0
         replace p104 := eq_true p104;replace q104 := eq_true q104;go_wp2_with (first | ((with_reducible refine gate_callee (f := 78) rfl ?_); refine goesL_ (some 19) rfl rfl Tryd.func78 (by kernel_rfl) rfl #[.int .i64 (wrap64 (rd l0 x4_1))] rfl zE ?_; (with_reducible refine (epitomeref01_size.calls k1 (wrap64 (rd l0 x4_1)) t105 _ A6.out).mono ?_); rintro e w' ⟨rfl, ⟨nd, rfl⟩⟩; refine ⟨_, rfl, ?_⟩) | ((with_reducible refine gate_dst (N := 56) rfl ?_); refine R_lit (Kd.int .u8) _ 5 ?hg (N := 56) ?hd (xs := ([(wrap64 (224 + (wrap64 (Int.tdiv (wrap64 (rd l0 x4_1)) 4096)))) % 256, (wrap64 (128 + (Int.tmod (wrap64 (Int.tdiv (wrap64 (rd l0 x4_1)) 64)) 64))) % 256, (wrap64 (128 + (Int.tmod (wrap64 (rd l0 x4_1)) 64))) % 256] : List Int)) (inner := [.int .u8 ((wrap64 (224 + (wrap64 (Int.tdiv (wrap64 (rd l0 x4_1)) 4096)))) % 256), .int .u8 ((wrap64 (128 + (Int.tmod (wrap64 (Int.tdiv (wrap64 (rd l0 x4_1)) 64)) 64))) % 256), .int .u8 ((wrap64 (128 + (Int.tmod (wrap64 (rd l0 x4_1)) 64))) % 256)]) (ok := fun _ => True) (okp := fun _ => True) ?hr ?hp (fun _ hk => hk) trivial (Below.refl _ _) (Nat.le_refl _) (by simp) ?_; (case hd => rfl); (case hg => rfl); (case hr => first | (go_simp; done) | (go_simp; rfl)); (case hp => exact (Reps.one (show Kd.M (Kd.int .u8) _ _ _ ((wrap64 (224 + (wrap64 (Int.tdiv (wrap64 (rd l0 x4_1)) 4096)))) % 256) [.int .u8 ((wrap64 (224 + (wrap64 (Int.tdiv (wrap64 (rd l0 x4_1)) 4096)))) % 256)] from rfl) (Reps.one (show Kd.M (Kd.int .u8) _ _ _ ((wrap64 (128 + (Int.tmod (wrap64 (Int.tdiv (wrap64 (rd l0 x4_1)) 64)) 64))) % 256) [.int .u8 ((wrap64 (128 + (Int.tmod (wrap64 (Int.tdiv (wrap64 (rd l0 x4_1)) 64)) 64))) % 256)] from rfl) (Reps.one (show Kd.M (Kd.int .u8) _ _ _ ((wrap64 (128 + (Int.tmod (wrap64 (rd l0 x4_1)) 64))) % 256) [.int .u8 ((wrap64 (128 + (Int.tmod (wrap64 (rd l0 x4_1)) 64))) % 256)] from rfl) (Reps.none _ _))))); intro v116 w18 ho19 hb hg_ hnew_; clear hg_ hnew_; (first | rw [← Ny115.out] at ho19 | (simp only [Int.reduceToNat] at ho19; rw [← Ny115.out] at ho19)); have HO117 := Am (R_lower (zn ho19 HO_3) (below_size (zB HB)));replace HO_3 := Am (zr HO_3 ho19 hb);replace HB := Am (below_step (zB HB) hb); clear hb ho19; obtain ⟨Ao21, co21, eo21⟩ := R_slice HO117.out; subst eo21) | ((with_reducible refine gate_builtin (b := .append) (xs := #[.tmp 42, .tmp 56]) rfl ?_); at_builtin; refine R_append_rows (Kd.int .u8) (w0 := w) w.heap.size rfl (.tmp 42) (.tmp 56) 91 5 (.int .u8 0) 1 rfl Tryd.underlying91 info5 rfl (by decide) (by omega) u3 x3_1 y115 _ _ _ (fun k_ => some k_ ≠ (.slice Ao21 y115.length co21 : Value).ownBlock) (fun _ => False) rfl rfl ?aO ?aR (fun _ _ h => h) (fun _ h => h.elim) ?aF ?aB ?aS ?aL ?_; (case aR => exact zI (R_reads' HO117.out).2.2); (case aB => exact (zB HB)); (case aF => exact (fun k_ hk => Kd.fresh' (R_lt (zR HO117)) k_ hk)); (case aO => exact (by (with_reducible repeat (first | apply R_alloc | apply R_drewN | apply R_drew)); exact R_mono HO_3.out (fun _ hk => hk.2))); (case aS => exact (below_size (zB HB))); (case aL => have := LMc17.out; omega); intro v119 w20 ho hb hg hat; rw [← Ny118.out] at ho; replace HO117 := Am (R_after (ok := (fun _ => True)) (zR HO117) hg hat);replace HB := Am (hb);have HO120 := Am (ho);clear HO_3; clear ho hb hg hat))
         go_roundg k1
         case measure => have := HK1.out; omega
         case rel => exact ⟨(y118), (wrap64 (x4_1 + 1)), zG, H', ⟨by have := HK1.out; omega⟩, ⟨by (with_reducible repeat (first | apply R_alloc | apply R_drewN | apply R_drew)); exact R_mono HO120.out (fun _ hk => trivial)⟩, ⟨(zB HB)⟩⟩
        ·rw [if_neg c17] at H;exact absurd H (by simp)
       ·rw [if_neg c16] at H;have c16b0 : (t105 == 3) = false := beq_eq_false_iff_ne.mpr c16
        have c16b1 : (t105 != 3) = true := bne_iff_ne.mpr c16
        by_cases c22 : t105 = 4
        ·rw [if_pos c22] at H;have c22b0 : (t105 == 4) = true := beq_iff_eq.mpr c22
         have c22b1 : (t105 != 4) = false := bne_eq_false_iff_eq.mpr c22
         clear c22;obtain ⟨y121, hy121⟩ : ∃ y_ : List Int, y_ = (([(wrap64 (240 + (wrap64 (Int.tdiv (wrap64 (rd l0 x4_1)) 262144)))) % 256, (wrap64 (128 + (Int.tmod (wrap64 (Int.tdiv (wrap64 (rd l0 x4_1)) 4096)) 64))) % 256, (wrap64 (128 + (Int.tmod (wrap64 (Int.tdiv (wrap64 (rd l0 x4_1)) 64)) 64))) % 256, (wrap64 (128 + (Int.tmod (wrap64 (rd l0 x4_1)) 64))) % 256] : List Int)) := ⟨_, rfl⟩
         replace H : (if x3_1.length + y121.length < 140737488355328 then (epitomeref01_Of.l0 k1 l0 (x3_1 ++ y121) (wrap64 (x4_1 + 1))) else (none)) = some r := by first | (rw [hy121]; with_reducible exact H) | (have H2_ := (Option.bind_some _ _).symm.trans H; rw [hy121]; with_reducible exact H2_) | (have H2_ := (Option.bind_some _ _).symm.trans H; with_reducible exact H2_) | with_reducible exact H | (rw [hy121]; exact H) | exact H
         have Ny121 := Am hy121;clear hy121;by_cases c23 : x3_1.length + y121.length < 140737488355328
         ·rw [if_pos c23] at H;have LMc23 := Am c23;clear c23;obtain ⟨y124, hy124⟩ : ∃ y_ : List Int, y_ = (x3_1 ++ y121) := ⟨_, rfl⟩
          replace H : (epitomeref01_Of.l0 k1 l0 y124 (wrap64 (x4_1 + 1))) = some r := by first | (rw [hy124]; with_reducible exact H) | (have H2_ := (Option.bind_some _ _).symm.trans H; rw [hy124]; with_reducible exact H2_) | (have H2_ := (Option.bind_some _ _).symm.trans H; with_reducible exact H2_) | with_reducible exact H | (rw [hy124]; exact H) | exact H
          have Ny124 := Am hy124;clear hy124;have H' := Am H
          clear H;have p104 : 0 ≤ (x4_1 : Int) := of_decide_eq_true (by assumption)
          have q104 : x4_1 < (l0.length : Int) := of_decide_eq_true (by assumption)
          obtain ⟨ad104, e104, hx104_0⟩ := Kd.at_int HR0.out x4_1 p104 q104
          cases e104
          replace hx104_0 := (HB.out.cell (World.block_lt_of_cell? w _ hx104_0)).trans hx104_0
          replace p104 := eq_true p104;replace q104 := eq_true q104;go_wp2_with (first | ((with_reducible refine gate_callee (f := 78) rfl ?_); refine goesL_ (some 19) rfl rfl Tryd.func78 (by kernel_rfl) rfl #[.int .i64 (wrap64 (rd l0 x4_1))] rfl zE ?_; (with_reducible refine (epitomeref01_size.calls k1 (wrap64 (rd l0 x4_1)) t105 _ A6.out).mono ?_); rintro e w' ⟨rfl, ⟨nd, rfl⟩⟩; refine ⟨_, rfl, ?_⟩) | ((with_reducible refine gate_dst (N := 79) rfl ?_); refine R_lit (Kd.int .u8) _ 5 ?hg (N := 79) ?hd (xs := ([(wrap64 (240 + (wrap64 (Int.tdiv (wrap64 (rd l0 x4_1)) 262144)))) % 256, (wrap64 (128 + (Int.tmod (wrap64 (Int.tdiv (wrap64 (rd l0 x4_1)) 4096)) 64))) % 256, (wrap64 (128 + (Int.tmod (wrap64 (Int.tdiv (wrap64 (rd l0 x4_1)) 64)) 64))) % 256, (wrap64 (128 + (Int.tmod (wrap64 (rd l0 x4_1)) 64))) % 256] : List Int)) (inner := [.int .u8 ((wrap64 (240 + (wrap64 (Int.tdiv (wrap64 (rd l0 x4_1)) 262144)))) % 256), .int .u8 ((wrap64 (128 + (Int.tmod (wrap64 (Int.tdiv (wrap64 (rd l0 x4_1)) 4096)) 64))) % 256), .int .u8 ((wrap64 (128 + (Int.tmod (wrap64 (Int.tdiv (wrap64 (rd l0 x4_1)) 64)) 64))) % 256), .int .u8 ((wrap64 (128 + (Int.tmod (wrap64 (rd l0 x4_1)) 64))) % 256)]) (ok := fun _ => True) (okp := fun _ => True) ?hr ?hp (fun _ hk => hk) trivial (Below.refl _ _) (Nat.le_refl _) (by simp) ?_; (case hd => rfl); (case hg => rfl); (case hr => first | (go_simp; done) | (go_simp; rfl)); (case hp => exact (Reps.one (show Kd.M (Kd.int .u8) _ _ _ ((wrap64 (240 + (wrap64 (Int.tdiv (wrap64 (rd l0 x4_1)) 262144)))) % 256) [.int .u8 ((wrap64 (240 + (wrap64 (Int.tdiv (wrap64 (rd l0 x4_1)) 262144)))) % 256)] from rfl) (Reps.one (show Kd.M (Kd.int .u8) _ _ _ ((wrap64 (128 + (Int.tmod (wrap64 (Int.tdiv (wrap64 (rd l0 x4_1)) 4096)) 64))) % 256) [.int .u8 ((wrap64 (128 + (Int.tmod (wrap64 (Int.tdiv (wrap64 (rd l0 x4_1)) 4096)) 64))) % 256)] from rfl) (Reps.one (show Kd.M (Kd.int .u8) _ _ _ ((wrap64 (128 + (Int.tmod (wrap64 (Int.tdiv (wrap64 (rd l0 x4_1)) 64)) 64))) % 256) [.int .u8 ((wrap64 (128 + (Int.tmod (wrap64 (Int.tdiv (wrap64 (rd l0 x4_1)) 64)) 64))) % 256)] from rfl) (Reps.one (show Kd.M (Kd.int .u8) _ _ _ ((wrap64 (128 + (Int.tmod (wrap64 (rd l0 x4_1)) 64))) % 256) [.int .u8 ((wrap64 (128 + (Int.tmod (wrap64 (rd l0 x4_1)) 64))) % 256)] from rfl) (Reps.none _ _)))))); intro v122 w24 ho25 hb hg_ hnew_; clear hg_ hnew_; (first | rw [← Ny121.out] at ho25 | (simp only [Int.reduceToNat] at ho25; rw [← Ny121.out] at ho25)); have HO123 := Am (R_lower (zn ho25 HO_3) (below_size (zB HB)));replace HO_3 := Am (zr HO_3 ho25 hb);replace HB := Am (below_step (zB HB) hb); clear hb ho25; obtain ⟨Ao27, co27, eo27⟩ := R_slice HO123.out; subst eo27) | ((with_reducible refine gate_builtin (b := .append) (xs := #[.tmp 60, .tmp 79]) rfl ?_); at_builtin; refine R_append_rows (Kd.int .u8) (w0 := w) w.heap.size rfl (.tmp 60) (.tmp 79) 91 5 (.int .u8 0) 1 rfl Tryd.underlying91 info5 rfl (by decide) (by omega) u3 x3_1 y121 _ _ _ (fun k_ => some k_ ≠ (.slice Ao27 y121.length co27 : Value).ownBlock) (fun _ => False) rfl rfl ?aO ?aR (fun _ _ h => h) (fun _ h => h.elim) ?aF ?aB ?aS ?aL ?_; (case aR => exact zI (R_reads' HO123.out).2.2); (case aB => exact (zB HB)); (case aF => exact (fun k_ hk => Kd.fresh' (R_lt (zR HO123)) k_ hk)); (case aO => exact (by (with_reducible repeat (first | apply R_alloc | apply R_drewN | apply R_drew)); exact R_mono HO_3.out (fun _ hk => hk.2))); (case aS => exact (below_size (zB HB))); (case aL => have := LMc23.out; omega); intro v125 w26 ho hb hg hat; rw [← Ny124.out] at ho; replace HO123 := Am (R_after (ok := (fun _ => True)) (zR HO123) hg hat);replace HB := Am (hb);have HO126 := Am (ho);clear HO_3; clear ho hb hg hat))
          go_roundg k1
          case measure => have := HK1.out; omega
          case rel => exact ⟨(y124), (wrap64 (x4_1 + 1)), zG, H', ⟨by have := HK1.out; omega⟩, ⟨by (with_reducible repeat (first | apply R_alloc | apply R_drewN | apply R_drew)); exact R_mono HO126.out (fun _ hk => trivial)⟩, ⟨(zB HB)⟩⟩
         ·rw [if_neg c23] at H;exact absurd H (by simp)
        ·rw [if_neg c22] at H;have c22b0 : (t105 == 4) = false := beq_eq_false_iff_ne.mpr c22
         have c22b1 : (t105 != 4) = true := bne_iff_ne.mpr c22
         have H' := Am H
         clear H;have p104 : 0 ≤ (x4_1 : Int) := of_decide_eq_true (by assumption)
         have q104 : x4_1 < (l0.length : Int) := of_decide_eq_true (by assumption)
         obtain ⟨ad104, e104, hx104_0⟩ := Kd.at_int HR0.out x4_1 p104 q104
         cases e104
         replace hx104_0 := (HB.out.cell (World.block_lt_of_cell? w _ hx104_0)).trans hx104_0
         replace p104 := eq_true p104;replace q104 := eq_true q104;go_wp2_with (first | ((with_reducible refine gate_callee (f := 78) rfl ?_); refine goesL_ (some 19) rfl rfl Tryd.func78 (by kernel_rfl) rfl #[.int .i64 (wrap64 (rd l0 x4_1))] rfl zE ?_; (with_reducible refine (epitomeref01_size.calls k1 (wrap64 (rd l0 x4_1)) t105 _ A6.out).mono ?_); rintro e w' ⟨rfl, ⟨nd, rfl⟩⟩; refine ⟨_, rfl, ?_⟩))
         go_roundg k1
         case measure => have := HK1.out; omega
         case rel => exact ⟨(x3_1), (wrap64 (x4_1 + 1)), zG, H', ⟨by have := HK1.out; omega⟩, ⟨(zR HO_3)⟩, ⟨(zB HB)⟩⟩
    ·rw [if_neg c5] at H;exact absurd H (by simp)
   ·rw [if_neg c4] at H;have c4b0 : decide (x4_1 < (l0.length : Int)) = false := decide_eq_false c4
    clear c4;obtain rfl := Option.some.inj H;have hcv28 := own_string (P := Tryd.prog) Tryd.underlying91 Tryd.underlying5 Tryd.underlying9 (Kd.own_of_R HO_3.out)
    go_wp2
    go_ret
    exact ⟨zF, (zB HB)⟩
end Go.Proofs.YthhgobiaecehbaaDoor.F
end
section
namespace Go.Proofs.YthhgobiaecehbaaDoor.F
open Go.RowKit Go.Proofs.YthhgobiaecehbaaDoorW.PrintWords Go.Proofs.YthhgobiaecehbaaDoorW.PrintLast Go.Proofs.YthhgobiaecehbaaDoorW.PrintMore
attribute [local go_sem] max2_int min2_int max_two min_two max_three min_three max_four min_four cell_setCell_isSome
set_option linter.unusedVariables false
set_option linter.unusedSimpArgs false
open Kd
def epitomeref01_Fit.l0 : Nat → ByteArray → List Int → Int → Int → Int → Int → Int → Int → Int → Int → Int → Option (ByteArray)
  | 0, _, _, _, _, _, _, _, _, _, _, _ => none
  | k + 1, x0, x4, x5, x102000, x102001, x102002, x102003, x102004, x102005, x102006, x102007 => if x5 < (x0.size : Int) then (if 0 ≤ x5 then ((fit_rune.f x102000 x102001 x102002 x102003 x102004 x102005 x102006 x102007 (Int.tmod (bt x0 x5) 8)).bind fun t105 => (if x4.length < 35184372088832 then (epitomeref01_Fit.l0 k x0 (x4 ++ [t105]) (wrap64 (x5 + 1)) x102000 x102001 x102002 x102003 x102004 x102005 x102006 x102007) else (none))) else (none)) else ((epitomeref01_Of.f k x4).bind fun t109 => (some t109))
def epitomeref01_Fit.f (k : Nat) (a0 : ByteArray) : Option (ByteArray) := epitomeref01_Fit.l0 k a0 (([] : List Int)) 0 97 98 99 120 121 233 8364 128512
theorem epitomeref01_Fit.mono_l : ∀ k, (∀ y0 y1 y2 y3 y4 y5 y6 y7 y8 y9 y10, LeO (epitomeref01_Fit.l0 k y0 y1 y2 y3 y4 y5 y6 y7 y8 y9 y10) (epitomeref01_Fit.l0 (k + 1) y0 y1 y2 y3 y4 y5 y6 y7 y8 y9 y10))
  | 0 => fun _ _ _ _ _ _ _ _ _ _ _ r h => by simp [epitomeref01_Fit.l0] at h
  | k + 1 => by
    have ih0 := epitomeref01_Fit.mono_l k
    · intro y0 y1 y2 y3 y4 y5 y6 y7 y8 y9 y10
      unfold epitomeref01_Fit.l0
      repeat' first
      | (with_reducible exact ih0 _ _ _ _ _ _ _ _ _ _ _)
      | (with_reducible exact epitomeref01_Of.mono _ _)
      | (with_reducible exact LeO.refl _)
      | (with_reducible exact LeO.none _)
      | (with_reducible refine LeO.ite ?_ ?_)
      | (with_reducible refine LeO.bind ?_ (fun _ => ?_))
      | exact ih0 _ _ _ _ _ _ _ _ _ _ _
      | exact epitomeref01_Of.mono _ _
      | exact LeO.none _
      | refine LeO.ite ?_ ?_
      | refine LeO.bind ?_ (fun _ => ?_)
theorem epitomeref01_Fit.mono : ∀ a0 k, LeO (epitomeref01_Fit.f k a0) (epitomeref01_Fit.f (k + 1) a0) := by
  intro a0 k
  have ih0 := epitomeref01_Fit.mono_l k
  unfold epitomeref01_Fit.f
  repeat' first
      | (with_reducible exact ih0 _ _ _ _ _ _ _ _ _ _ _)
      | (with_reducible exact epitomeref01_Of.mono _ _)
      | (with_reducible exact LeO.refl _)
      | (with_reducible exact LeO.none _)
      | (with_reducible refine LeO.ite ?_ ?_)
      | (with_reducible refine LeO.bind ?_ (fun _ => ?_))
      | exact ih0 _ _ _ _ _ _ _ _ _ _ _
      | exact epitomeref01_Of.mono _ _
      | exact LeO.none _
      | refine LeO.ite ?_ ?_
      | refine LeO.bind ?_ (fun _ => ?_)
set_option maxHeartbeats 40000000 in
set_option maxRecDepth 100000 in
theorem epitomeref01_Fit.calls (k : Nat) (a0 : ByteArray) (r : ByteArray) (w : World) (h : epitomeref01_Fit.f k a0 = some r) :
  Calls Tryd.prog 23 #[.string a0] w fun e w' => e = .returned (.string r) ∧ Below w.heap.size w w' := by
 have hu68 := Tryd.underlying68
 have HB := Am (Below.refl w.heap.size w)
 have H : (epitomeref01_Fit.l0 k a0 (([] : List Int)) 0 97 98 99 120 121 233 8364 128512) = some r := h
 clear h;obtain ⟨y102, hy102⟩ : ∃ y_ : List Int, y_ = (([] : List Int)) := ⟨_, rfl⟩
 replace H : (epitomeref01_Fit.l0 k a0 y102 0 97 98 99 120 121 233 8364 128512) = some r := by first | (rw [hy102]; with_reducible exact H) | (have H2_ := (Option.bind_some _ _).symm.trans H; rw [hy102]; with_reducible exact H2_) | (have H2_ := (Option.bind_some _ _).symm.trans H; with_reducible exact H2_) | with_reducible exact H | (rw [hy102]; exact H) | exact H
 have Ny102 := Am hy102;clear hy102;have H' := Am H
 clear H;go_enter Tryd.func23, Tryd.ntmps23
 go_wp2_with (first | ((with_reducible refine gate_dst (N := 3) rfl ?_); refine box_event ?hg (N := 3) ?hd (cs := #[.int .i32 0, .int .i32 0, .int .i32 0, .int .i32 0, .int .i32 0, .int .i32 0, .int .i32 0, .int .i32 0]) (t := 68) ?hr ?_; (case hd => rfl); (case hg => rfl); (case hr => first | (go_simp; done) | (go_simp; rfl)); intro gb101 hg w2 hbox hb; have BK101 := Am (hbox);have GW101 := Am (zO (w := w) HB hg);have GE101 := Am (zO (w := w) HB hg);replace HB := Am (below_step (zB HB) hb); clear hb hbox hg; have hcz3_0 : w2.cell? ⟨gb101, 0, none⟩ = some (.int .i32 0) := (blk_cell BK101.out 0).trans rfl; have hcz3_1 : w2.cell? ⟨gb101, 1, none⟩ = some (.int .i32 0) := (blk_cell BK101.out 1).trans rfl; have hcz3_2 : w2.cell? ⟨gb101, 2, none⟩ = some (.int .i32 0) := (blk_cell BK101.out 2).trans rfl; have hcz3_3 : w2.cell? ⟨gb101, 3, none⟩ = some (.int .i32 0) := (blk_cell BK101.out 3).trans rfl; have hcz3_4 : w2.cell? ⟨gb101, 4, none⟩ = some (.int .i32 0) := (blk_cell BK101.out 4).trans rfl; have hcz3_5 : w2.cell? ⟨gb101, 5, none⟩ = some (.int .i32 0) := (blk_cell BK101.out 5).trans rfl; have hcz3_6 : w2.cell? ⟨gb101, 6, none⟩ = some (.int .i32 0) := (blk_cell BK101.out 6).trans rfl; have hcz3_7 : w2.cell? ⟨gb101, 7, none⟩ = some (.int .i32 0) := (blk_cell BK101.out 7).trans rfl; have hfz3_0 := blk_frozen BK101.out 0; have hfz3_1 := blk_frozen BK101.out 1; have hfz3_2 := blk_frozen BK101.out 2; have hfz3_3 := blk_frozen BK101.out 3; have hfz3_4 := blk_frozen BK101.out 4; have hfz3_5 := blk_frozen BK101.out 5; have hfz3_6 := blk_frozen BK101.out 6; have hfz3_7 := blk_frozen BK101.out 7) | ((with_reducible refine gate_dst (N := 7) rfl ?_); refine R_lit (Kd.int .i32) _ 21 ?hg (N := 7) ?hd (xs := ([] : List Int)) (inner := []) (ok := fun _ => True) (okp := fun _ => True) ?hr ?hp (fun _ hk => hk) trivial (Below.refl _ _) (Nat.le_refl _) (by simp) ?_; (case hd => rfl); (case hg => rfl); (case hr => first | (go_simp; done) | (go_simp; rfl)); (case hp => exact (Reps.none _ _)); intro v103 w4 ho5 hb hg_ hnew_; clear hg_ hnew_; (first | rw [← Ny102.out] at ho5 | (simp only [Int.reduceToNat] at ho5; rw [← Ny102.out] at ho5)); have HO104 := Am (R_lower ho5 (below_size (zB HB)));replace BK101 := Am (blk_below (g := gb101) (o := .cells #[.int .i32 97, .int .i32 98, .int .i32 99, .int .i32 120, .int .i32 121, .int .i32 233, .int .i32 8364, .int .i32 128512] 68 (0, 0)) (zP BK101) hb);replace HB := Am (below_step (zB HB) hb); clear hb ho5))
 go_loopg [4, 5] k (fun kq v4 v5 w' => ∃ (x4_1 : List Int) (x5_1 : Int), v5 = .int .i64 x5_1 ∧ Aside0 (epitomeref01_Fit.l0 kq a0 x4_1 x5_1 97 98 99 120 121 233 8364 128512 = some r) ∧ Aside0 (kq ≤ k) ∧ Aside0 (Kd.R (Kd.int .i32) 21 w' w.heap.size (fun _ => True) v4 x4_1) ∧ Aside0 (w'.heap[gb101]? = some (.cells #[.int .i32 97, .int .i32 98, .int .i32 99, .int .i32 120, .int .i32 121, .int .i32 233, .int .i32 8364, .int .i32 128512] 68 (0, 0))) ∧ Aside0 (Below w.heap.size w w'))
 case atStart => exact ⟨(y102), (0), zG, H', ⟨Nat.le_refl _⟩, ⟨(zR HO104)⟩, ⟨(zK BK101)⟩, ⟨(zB HB)⟩⟩
 case round =>
  clear H';(try clear c2);(try clear p2);(try clear hcz3_0);(try clear hcz3_1);(try clear hcz3_2);(try clear hcz3_3);(try clear hcz3_4);(try clear hcz3_5);(try clear hcz3_6);(try clear hcz3_7);(try clear hfz3_0);(try clear hfz3_1);(try clear hfz3_2);(try clear hfz3_3);(try clear hfz3_4);(try clear hfz3_5);(try clear hfz3_6);(try clear hfz3_7);obtain ⟨x4_1, x5_1, rfl, HA, HK1, HO_4, BK101, HB⟩ := hrel
  cases gk with
  | zero => exact absurd HA.out (by simp [epitomeref01_Fit.l0])
  | succ k1 =>
   have H := HA.out;clear HA;simp only [epitomeref01_Fit.l0] at H
   by_cases c6 : x5_1 < (a0.size : Int)
   ·rw [if_pos c6] at H;have c6b0 : decide (x5_1 < (a0.size : Int)) = true := decide_eq_true c6
    clear c6;by_cases c7 : 0 ≤ x5_1
    ·rw [if_pos c7] at H;have c7b0 : decide (0 ≤ x5_1) = true := decide_eq_true c7
     clear c7;replace H := Option.bind_eq_some_iff.mp H;obtain ⟨t105, A90, H⟩ := H;have A9 := Am A90;clear A90;by_cases c10 : x4_1.length < 35184372088832
     ·rw [if_pos c10] at H;have LMc10 := Am c10;clear c10;obtain ⟨y106, hy106⟩ : ∃ y_ : List Int, y_ = (x4_1 ++ [t105]) := ⟨_, rfl⟩
      replace H : (epitomeref01_Fit.l0 k1 a0 y106 (wrap64 (x5_1 + 1)) 97 98 99 120 121 233 8364 128512) = some r := by first | (rw [hy106]; with_reducible exact H) | (have H2_ := (Option.bind_some _ _).symm.trans H; rw [hy106]; with_reducible exact H2_) | (have H2_ := (Option.bind_some _ _).symm.trans H; with_reducible exact H2_) | with_reducible exact H | (rw [hy106]; exact H) | exact H
      have Ny106 := Am hy106;clear hy106;have H' := Am H
      clear H;have p8 : 0 ≤ (x5_1 : Int) := of_decide_eq_true (by assumption)
      have q8 : x5_1 < (a0.size : Int) := of_decide_eq_true (by assumption)
      have hx8 := bt_at a0 x5_1
      replace p8 := eq_true p8;replace q8 := eq_true q8;have hcz11_0 : wr.cell? ⟨gb101, 0, none⟩ = some (.int .i32 97) := (blk_cell BK101.out 0).trans rfl
      have hcz11_1 : wr.cell? ⟨gb101, 1, none⟩ = some (.int .i32 98) := (blk_cell BK101.out 1).trans rfl
      have hcz11_2 : wr.cell? ⟨gb101, 2, none⟩ = some (.int .i32 99) := (blk_cell BK101.out 2).trans rfl
      have hcz11_3 : wr.cell? ⟨gb101, 3, none⟩ = some (.int .i32 120) := (blk_cell BK101.out 3).trans rfl
      have hcz11_4 : wr.cell? ⟨gb101, 4, none⟩ = some (.int .i32 121) := (blk_cell BK101.out 4).trans rfl
      have hcz11_5 : wr.cell? ⟨gb101, 5, none⟩ = some (.int .i32 233) := (blk_cell BK101.out 5).trans rfl
      have hcz11_6 : wr.cell? ⟨gb101, 6, none⟩ = some (.int .i32 8364) := (blk_cell BK101.out 6).trans rfl
      have hcz11_7 : wr.cell? ⟨gb101, 7, none⟩ = some (.int .i32 128512) := (blk_cell BK101.out 7).trans rfl
      have hfz11_0 := blk_frozen BK101.out 0;have hfz11_1 := blk_frozen BK101.out 1;have hfz11_2 := blk_frozen BK101.out 2;have hfz11_3 := blk_frozen BK101.out 3;have hfz11_4 := blk_frozen BK101.out 4;have hfz11_5 := blk_frozen BK101.out 5;have hfz11_6 := blk_frozen BK101.out 6;have hfz11_7 := blk_frozen BK101.out 7;have f8b := rem8 (bt a0 x5_1) (bt_nonneg _ _)
      have f8c := fit_cell BK101.out A9.out
      have f8p := eq_true f8b.1
      have f8q := eq_true f8b.2
      have huA := Tryd.underlying68
      clear f8b;go_wp2_with (first | ((with_reducible refine gate_builtin (b := .append) (xs := #[.tmp 14, .tmp 21]) rfl ?_); at_builtin; refine R_append (Kd.int .i32) (w0 := w) w.heap.size rfl (.tmp 14) (.tmp 21) 69 21 (.int .i32 0) 4 rfl Tryd.underlying69 info21 rfl (by decide) (by omega) u4 x4_1 t105 [.int .i32 t105] (fun _ => True) (fun _ => False) rfl rfl ?aP (fun _ hk => hk.elim) ?aF ?aO ?aB ?aS ?aL ?_; (case aP => exact rfl); (case aB => exact (zB HB)); (case aF => exact (fun _ _ => trivial)); (case aO => exact (zR HO_4)); (case aS => exact (below_size (zB HB))); (case aL => have := LMc10.out; omega); intro v107 w13 ho hb hg hat; rw [← Ny106.out] at ho; replace BK101 := Am (zW BK101 hg (R_ne HO_4.out BK101.out (by decide)));replace HB := Am (hb);have HO108 := Am (ho);clear HO_4; clear ho hb hg hat))
      go_roundg k1
      case measure => have := HK1.out; omega
      case rel => exact ⟨(y106), (wrap64 (x5_1 + 1)), zG, H', ⟨by have := HK1.out; omega⟩, ⟨(zR HO108)⟩, ⟨(zK BK101)⟩, ⟨(zB HB)⟩⟩
     ·rw [if_neg c10] at H;exact absurd H (by simp)
    ·rw [if_neg c7] at H;exact absurd H (by simp)
   ·rw [if_neg c6] at H;have c6b0 : decide (x5_1 < (a0.size : Int)) = false := decide_eq_false c6
    clear c6;replace H := Option.bind_eq_some_iff.mp H;obtain ⟨t109, A140, H⟩ := H;replace H : (some t109) = some r := H
    have A14 := Am A140;clear A140;obtain rfl := Option.some.inj H;obtain ⟨Ao15, co15, eo15⟩ := R_slice HO_4.out
    subst eo15
    go_wp2_with (first | ((with_reducible refine gate_callee (f := 51) rfl ?_); refine goesL_ (some 24) rfl rfl Tryd.func51 (by kernel_rfl) rfl #[.slice Ao15 x4_1.length co15] rfl zE ?_; (with_reducible refine (epitomeref01_Of.calls k1 _ _ x4_1 t109 _ ?side1 ?side2 A14.out).mono ?_); (case side1 => exact zI (R_reads' HO_4.out).2.2); (case side2 => exact (R_reads' HO_4.out).2.1); rintro e w16 ⟨rfl, hb⟩; refine ⟨_, rfl, ?_⟩; replace HO_4 := Am (R_below (zR HO_4) hb);replace BK101 := Am (zU BK101 hb);replace HB := Am (below_step (zB HB) hb); (try clear hb)))
    go_ret
    exact ⟨zF, (zB HB)⟩
end Go.Proofs.YthhgobiaecehbaaDoor.F
end
section
namespace Go.Proofs.YthhgobiaecehbaaDoor.F
open Go.RowKit Go.Proofs.YthhgobiaecehbaaDoorW.PrintWords Go.Proofs.YthhgobiaecehbaaDoorW.PrintLast Go.Proofs.YthhgobiaecehbaaDoorW.PrintMore
attribute [local go_sem] max2_int min2_int max_two min_two max_three min_three max_four min_four cell_setCell_isSome
set_option linter.unusedVariables false
set_option linter.unusedSimpArgs false
open Kd
mutual
def epitomeref04_Fit.l0 : Nat → List (S41) → Int → List (S41) → Int → Option ((List (S41)))
  | 0, _, _, _, _ => none
  | k + 1, x0, x1, x5, x6 => if x6 < (x0.length : Int) then (epitomeref04_Fit.j1 k x0 x1 x5 x6 (decide (x6 < 12))) else (epitomeref04_Fit.j1 k x0 x1 x5 x6 false)
def epitomeref04_Fit.j1 : Nat → List (S41) → Int → List (S41) → Int → Bool → Option ((List (S41)))
  | 0, _, _, _, _, _ => none
  | k + 1, x0, x1, x5, x6, x16 => if x16 = true then (if 0 ≤ x6 then (if x6 < (x0.length : Int) then (if (wrap64 (1 + (Int.tmod (wrap64 ((Int.tmod ((rd_T41 x0 x6).f0) 3) + 3)) 3))) = 2 then (if 0 ≤ (mn (((rd_T41 x0 x6).f2).size : Int) 6) then (if (mn (((rd_T41 x0 x6).f2).size : Int) 6) ≤ (((rd_T41 x0 x6).f2).size : Int) then ((epitomeref01_Fit.f k (((rd_T41 x0 x6).f2).extract 0 ((mn (((rd_T41 x0 x6).f2).size : Int) 6) : Int).toNat)).bind fun t108 => (if x5.length < 4398046511104 then (epitomeref04_Fit.l0 k x0 x1 (x5 ++ [(⟨wrap64 (1 + (Int.tmod (wrap64 ((Int.tmod ((rd_T41 x0 x6).f0) 3) + 3)) 3)), 0, t108⟩ : S41)]) (wrap64 (x6 + 1))) else (none))) else (none)) else (none)) else (if x5.length < 4398046511104 then (epitomeref04_Fit.l0 k x0 (wrap64 (x1 - (mn (Int.tmod (wrap64 ((Int.tmod ((rd_T41 x0 x6).f1) 7) + 7)) 7) x1))) (x5 ++ [(⟨wrap64 (1 + (Int.tmod (wrap64 ((Int.tmod ((rd_T41 x0 x6).f0) 3) + 3)) 3)), mn (Int.tmod (wrap64 ((Int.tmod ((rd_T41 x0 x6).f1) 7) + 7)) 7) x1, (⟨#[]⟩ : ByteArray)⟩ : S41)]) (wrap64 (x6 + 1))) else (none))) else (none)) else (none)) else (if x1 > 0 then (if x5.length < 4398046511104 then (some (x5 ++ [(⟨1, x1, (⟨#[]⟩ : ByteArray)⟩ : S41)])) else (none)) else (some x5))
end
def epitomeref04_Fit.f (k : Nat) (l0 : List (S41)) (a1 : Int) : Option ((List (S41))) := epitomeref04_Fit.l0 k l0 a1 (([] : List (S41))) 0
theorem epitomeref04_Fit.mono_l : ∀ k, (∀ y0 y1 y2 y3, LeO (epitomeref04_Fit.l0 k y0 y1 y2 y3) (epitomeref04_Fit.l0 (k + 1) y0 y1 y2 y3)) ∧ (∀ y0 y1 y2 y3 y4, LeO (epitomeref04_Fit.j1 k y0 y1 y2 y3 y4) (epitomeref04_Fit.j1 (k + 1) y0 y1 y2 y3 y4))
  | 0 => ⟨fun _ _ _ _ r h => by simp [epitomeref04_Fit.l0] at h, fun _ _ _ _ _ r h => by simp [epitomeref04_Fit.j1] at h⟩
  | k + 1 => by
    obtain ⟨ih0, ih1⟩ := epitomeref04_Fit.mono_l k
    refine ⟨?_, ?_⟩
    · intro y0 y1 y2 y3
      unfold epitomeref04_Fit.l0
      repeat' first
      | (with_reducible exact ih0 _ _ _ _)
      | (with_reducible exact ih1 _ _ _ _ _)
      | (with_reducible exact epitomeref01_Fit.mono _ _)
      | (with_reducible exact LeO.refl _)
      | (with_reducible exact LeO.none _)
      | (with_reducible refine LeO.ite ?_ ?_)
      | (with_reducible refine LeO.bind ?_ (fun _ => ?_))
      | exact ih0 _ _ _ _
      | exact ih1 _ _ _ _ _
      | exact epitomeref01_Fit.mono _ _
      | exact LeO.none _
      | refine LeO.ite ?_ ?_
      | refine LeO.bind ?_ (fun _ => ?_)
    · intro y0 y1 y2 y3 y4
      unfold epitomeref04_Fit.j1
      repeat' first
      | (with_reducible exact ih0 _ _ _ _)
      | (with_reducible exact ih1 _ _ _ _ _)
      | (with_reducible exact epitomeref01_Fit.mono _ _)
      | (with_reducible exact LeO.refl _)
      | (with_reducible exact LeO.none _)
      | (with_reducible refine LeO.ite ?_ ?_)
      | (with_reducible refine LeO.bind ?_ (fun _ => ?_))
      | exact ih0 _ _ _ _
      | exact ih1 _ _ _ _ _
      | exact epitomeref01_Fit.mono _ _
      | exact LeO.none _
      | refine LeO.ite ?_ ?_
      | refine LeO.bind ?_ (fun _ => ?_)
theorem epitomeref04_Fit.mono : ∀ a0 a1 k, LeO (epitomeref04_Fit.f k a0 a1) (epitomeref04_Fit.f (k + 1) a0 a1) := by
  intro a0 a1 k
  obtain ⟨ih0, ih1⟩ := epitomeref04_Fit.mono_l k
  unfold epitomeref04_Fit.f
  repeat' first
      | (with_reducible exact ih0 _ _ _ _)
      | (with_reducible exact ih1 _ _ _ _ _)
      | (with_reducible exact epitomeref01_Fit.mono _ _)
      | (with_reducible exact LeO.refl _)
      | (with_reducible exact LeO.none _)
      | (with_reducible refine LeO.ite ?_ ?_)
      | (with_reducible refine LeO.bind ?_ (fun _ => ?_))
      | exact ih0 _ _ _ _
      | exact ih1 _ _ _ _ _
      | exact epitomeref01_Fit.mono _ _
      | exact LeO.none _
      | refine LeO.ite ?_ ?_
      | refine LeO.bind ?_ (fun _ => ?_)
def epitomeref04_Fit.T7 : Bool × List (List Nat × List Nat) := (true, [([], []), ([], []), ([0, 1], [0, 1]), ([2], [2]), ([3], [3]), ([], []), ([], []), ([5, 6], [5, 6]), ([7], [7]), ([8], [8]), ([9], [9]), ([10], [10]), ([4, 11], [4, 11]), ([12], [12]), ([0, 1, 2, 3, 4, 5, 6, 7, 8, 9, 10, 11, 12, 13], []), ([14, 13, 13, 0, 1, 2, 3, 4, 5, 6, 7, 8, 9, 10, 11, 12, 13], [13, 14])])
def epitomeref04_Fit.B7 : List Nat := [0, 0, 3, 7, 15, 0, 0, 96, 224, 480, 992, 2016, 4095, 8191, 16383, 32767]
theorem epitomeref04_Fit.tab7 : rtab .any (opsOf Tryd.f27 7) = epitomeref04_Fit.T7 := by kernel_rfl
theorem epitomeref04_Fit.bits7 : waitsOk epitomeref04_Fit.T7.2 epitomeref04_Fit.B7 = true := by kernel_rfl
set_option maxHeartbeats 40000000 in
set_option maxRecDepth 100000 in
theorem epitomeref04_Fit.calls (k : Nat) (A0 : Option Addr) (c0 : Nat) (l0 : List (S41)) (a1 : Int) (r : List (S41)) (w : World) (hr0 : Kd.C k41 w A0 l0.length l0) (hc0 : l0.length ≤ c0) (h : epitomeref04_Fit.f k l0 a1 = some r) :
  Calls Tryd.prog 27 #[.slice A0 l0.length c0, .int .i64 a1] w fun e w' => ∃ v0_ : Value, e = .returned (v0_) ∧ Kd.R k41 41 w' w.heap.size (fun _ => True) v0_ r ∧ Below w.heap.size w w' := by
 have hu41 := Tryd.underlying41
 have HR0 := Am hr0;have HC0 := Am hc0;clear hr0 hc0;have HB := Am (Below.refl w.heap.size w)
 have H : (epitomeref04_Fit.l0 k l0 a1 (([] : List (S41))) 0) = some r := h
 clear h;obtain ⟨y101, hy101⟩ : ∃ y_ : List (S41), y_ = (([] : List (S41))) := ⟨_, rfl⟩
 replace H : (epitomeref04_Fit.l0 k l0 a1 y101 0) = some r := by first | (rw [hy101]; with_reducible exact H) | (have H2_ := (Option.bind_some _ _).symm.trans H; rw [hy101]; with_reducible exact H2_) | (have H2_ := (Option.bind_some _ _).symm.trans H; with_reducible exact H2_) | with_reducible exact H | (rw [hy101]; exact H) | exact H
 have Ny101 := Am hy101;clear hy101;have H' := Am H
 clear H;go_enter Tryd.func27, Tryd.ntmps27
 go_wp2_with (first | ((with_reducible refine gate_dst (N := 8) rfl ?_); refine R_lit k41 _ 41 ?hg (N := 8) ?hd (xs := ([] : List (S41))) (inner := []) (ok := fun _ => True) (okp := fun _ => True) ?hr ?hp (fun _ hk => hk) trivial (Below.refl _ _) (Nat.le_refl _) (by simp) ?_; (case hd => rfl); (case hg => rfl); (case hr => first | (go_simp; done) | (go_simp; rfl)); (case hp => exact (Reps.none _ _)); intro v102 w3 ho4 hb hg_ hnew_; clear hg_ hnew_; (first | rw [← Ny101.out] at ho4 | (simp only [Int.reduceToNat] at ho4; rw [← Ny101.out] at ho4)); have HO103 := Am (R_lower ho4 (below_size (zB HB)));replace HB := Am (below_step (zB HB) hb); clear hb ho4))
 go_loopg [1, 5, 6] k (fun kq v1 v5 v6 w' => ∃ (x1_1 : Int) (x5_1 : List (S41)) (x6_1 : Int), v1 = .int .i64 x1_1 ∧ v6 = .int .i64 x6_1 ∧ Aside0 (epitomeref04_Fit.l0 kq l0 x1_1 x5_1 x6_1 = some r) ∧ Aside0 (kq ≤ k) ∧ Aside0 (Kd.R k41 41 w' w.heap.size (fun _ => True) v5 x5_1) ∧ Aside0 (Below w.heap.size w w'))
 case atStart => exact ⟨(a1), (y101), (0), zG, zG, H', ⟨Nat.le_refl _⟩, ⟨(zR HO103)⟩, ⟨(zB HB)⟩⟩
 case round =>
  clear H';(try clear c2);(try clear p2);obtain ⟨x1_1, x5_1, x6_1, rfl, rfl, HA, HK1, HO_5, HB⟩ := hrel
  cases gk with
  | zero => exact absurd HA.out (by simp [epitomeref04_Fit.l0])
  | succ k1 =>
   have H := HA.out;clear HA;simp only [epitomeref04_Fit.l0] at H
   have HC5 := Am H;clear H;go_upto_region 3 with (fail)
   go_cut [16] (fun v16 wc => ∃ (kq : Nat) (x16_4 : Bool), v16 = .bool x16_4 ∧ Aside0 (epitomeref04_Fit.j1 kq l0 x1_1 x5_1 x6_1 x16_4 = some r) ∧ Aside0 (kq ≤ k1) ∧ Aside0 (Kd.R k41 41 wc w.heap.size (fun _ => True) u5 x5_1) ∧ Aside0 (Below w.heap.size w wc))
   case first =>
    have H := HC5.out;clear HC5;by_cases c6 : x6_1 < (l0.length : Int)
    ·rw [if_pos c6] at H;have c6b0 : decide (x6_1 < (l0.length : Int)) = true := decide_eq_true c6
     clear c6;(first | rw [c6b0] | (simp only [i64_w, i32_w]; rw [c6b0]) | skip)
     have H' := Am H
     clear H;go_wp2
     go_meet
     case rel => exact ⟨_, (decide (x6_1 < 12)), zG, H', ⟨by have := HK1.out; first | omega | exact Nat.le_refl _⟩, ⟨(zR HO_5)⟩, ⟨(zB HB)⟩⟩
    ·rw [if_neg c6] at H;have c6b0 : decide (x6_1 < (l0.length : Int)) = false := decide_eq_false c6
     clear c6;(first | rw [c6b0] | (simp only [i64_w, i32_w]; rw [c6b0]) | skip)
     have H' := Am H
     clear H;go_wp2
     go_meet
     case rel => exact ⟨_, (false), zG, H', ⟨by have := HK1.out; first | omega | exact Nat.le_refl _⟩, ⟨(zR HO_5)⟩, ⟨(zB HB)⟩⟩
   case rest =>
    clear HC5;(try clear c2);(try clear p2);(try clear c6);(try clear c6b0);(try clear p2);obtain ⟨kq, x16_4, rfl, HA, HJ4, HO_5, HB⟩ := hcut
    cases kq with
    | zero => exact absurd HA.out (by simp [epitomeref04_Fit.j1])
    | succ kj4 =>
     have H := HA.out;clear HA;simp only [epitomeref04_Fit.j1] at H
     by_cases c7 : x16_4 = true
     ·subst c7
      have H1 : (if 0 ≤ x6_1 then (if x6_1 < (l0.length : Int) then (if (wrap64 (1 + (Int.tmod (wrap64 ((Int.tmod ((rd_T41 l0 x6_1).f0) 3) + 3)) 3))) = 2 then (if 0 ≤ (mn (((rd_T41 l0 x6_1).f2).size : Int) 6) then (if (mn (((rd_T41 l0 x6_1).f2).size : Int) 6) ≤ (((rd_T41 l0 x6_1).f2).size : Int) then ((epitomeref01_Fit.f kj4 (((rd_T41 l0 x6_1).f2).extract 0 ((mn (((rd_T41 l0 x6_1).f2).size : Int) 6) : Int).toNat)).bind fun t108 => (if x5_1.length < 4398046511104 then (epitomeref04_Fit.l0 kj4 l0 x1_1 (x5_1 ++ [(⟨wrap64 (1 + (Int.tmod (wrap64 ((Int.tmod ((rd_T41 l0 x6_1).f0) 3) + 3)) 3)), 0, t108⟩ : S41)]) (wrap64 (x6_1 + 1))) else (none))) else (none)) else (none)) else (if x5_1.length < 4398046511104 then (epitomeref04_Fit.l0 kj4 l0 (wrap64 (x1_1 - (mn (Int.tmod (wrap64 ((Int.tmod ((rd_T41 l0 x6_1).f1) 7) + 7)) 7) x1_1))) (x5_1 ++ [(⟨wrap64 (1 + (Int.tmod (wrap64 ((Int.tmod ((rd_T41 l0 x6_1).f0) 3) + 3)) 3)), mn (Int.tmod (wrap64 ((Int.tmod ((rd_T41 l0 x6_1).f1) 7) + 7)) 7) x1_1, (⟨#[]⟩ : ByteArray)⟩ : S41)]) (wrap64 (x6_1 + 1))) else (none))) else (none)) else (none)) = some r := by rw [if_pos rfl] at H; exact H
      clear H;have H := H1
      clear H1;by_cases c8 : 0 ≤ x6_1
      ·rw [if_pos c8] at H;have c8b0 : decide (0 ≤ x6_1) = true := decide_eq_true c8
       clear c8;by_cases c9 : x6_1 < (l0.length : Int)
       ·rw [if_pos c9] at H;have c9b0 : decide (x6_1 < (l0.length : Int)) = true := decide_eq_true c9
        clear c9;by_cases c10 : (wrap64 (1 + (Int.tmod (wrap64 ((Int.tmod ((rd_T41 l0 x6_1).f0) 3) + 3)) 3))) = 2
        ·rw [if_pos c10] at H;have c10b0 : ((wrap64 (1 + (Int.tmod (wrap64 ((Int.tmod ((rd_T41 l0 x6_1).f0) 3) + 3)) 3))) == 2) = true := beq_iff_eq.mpr c10
         have c10b1 : ((wrap64 (1 + (Int.tmod (wrap64 ((Int.tmod ((rd_T41 l0 x6_1).f0) 3) + 3)) 3))) != 2) = false := bne_eq_false_iff_eq.mpr c10
         clear c10;obtain ⟨ji11, hji11⟩ : ∃ j_ : Int, (mn (((rd_T41 l0 x6_1).f2).size : Int) 6) = j_ := ⟨_, rfl⟩
         replace H : (if 0 ≤ (ji11) then (if (ji11) ≤ (((rd_T41 l0 x6_1).f2).size : Int) then ((epitomeref01_Fit.f kj4 (((rd_T41 l0 x6_1).f2).extract 0 ((ji11) : Int).toNat)).bind fun t108 => (if x5_1.length < 4398046511104 then (epitomeref04_Fit.l0 kj4 l0 x1_1 (x5_1 ++ [(⟨wrap64 (1 + (Int.tmod (wrap64 ((Int.tmod ((rd_T41 l0 x6_1).f0) 3) + 3)) 3)), 0, t108⟩ : S41)]) (wrap64 (x6_1 + 1))) else (none))) else (none)) else (none)) = some r := by first | (rw [hji11] at H; exact H) | (simp only [hji11] at H ⊢; exact H)
         have hji11_ : (if 6 < (((rd_T41 l0 x6_1).f2).size : Int) then 6 else (((rd_T41 l0 x6_1).f2).size : Int)) = ji11 := hji11
         by_cases c12 : 0 ≤ (ji11)
         ·rw [if_pos c12] at H;have c12b0 := eq_true c12
          have c12b1 : decide (0 ≤ (ji11)) = true := decide_eq_true c12
          clear c12;by_cases c13 : (ji11) ≤ (((rd_T41 l0 x6_1).f2).size : Int)
          ·rw [if_pos c13] at H;have c13b0 := eq_true c13
           have c13b1 : decide ((ji11) ≤ (((rd_T41 l0 x6_1).f2).size : Int)) = true := decide_eq_true c13
           clear c13;replace H := Option.bind_eq_some_iff.mp H;obtain ⟨t108, A140, H⟩ := H;have A14 := Am A140;clear A140;by_cases c15 : x5_1.length < 4398046511104
           ·rw [if_pos c15] at H;have LMc15 := Am c15;clear c15;obtain ⟨y109, hy109⟩ : ∃ y_ : List (S41), y_ = (x5_1 ++ [(⟨wrap64 (1 + (Int.tmod (wrap64 ((Int.tmod ((rd_T41 l0 x6_1).f0) 3) + 3)) 3)), 0, t108⟩ : S41)]) := ⟨_, rfl⟩
            replace H : (epitomeref04_Fit.l0 kj4 l0 x1_1 y109 (wrap64 (x6_1 + 1))) = some r := by first | (rw [hy109]; with_reducible exact H) | (have H2_ := (Option.bind_some _ _).symm.trans H; rw [hy109]; with_reducible exact H2_) | (have H2_ := (Option.bind_some _ _).symm.trans H; with_reducible exact H2_) | with_reducible exact H | (rw [hy109]; exact H) | exact H
            have Ny109 := Am hy109;clear hy109;have H' := Am H
            clear H;have p104 : 0 ≤ (x6_1 : Int) := of_decide_eq_true (by assumption)
            have q104 : x6_1 < (l0.length : Int) := of_decide_eq_true (by assumption)
            obtain ⟨ad104, e104, hx104_0, hx104_1, hx104_2⟩ := at_T41 HR0.out x6_1 p104 q104
            cases e104
            replace hx104_0 := (HB.out.cell (World.block_lt_of_cell? w _ hx104_0)).trans hx104_0
            replace hx104_1 := (HB.out.cell (World.block_lt_of_cell? w _ hx104_1)).trans hx104_1
            replace hx104_2 := (HB.out.cell (World.block_lt_of_cell? w _ hx104_2)).trans hx104_2
            replace p104 := eq_true p104;replace q104 := eq_true q104;try go_wp2_with (first | ((with_reducible refine gate_dst (N := 7) rfl ?_); refine box_event ?hg (N := 7) ?hd (cs := #[.int .i64 0, .int .i64 0, .string (⟨#[]⟩ : ByteArray)]) (t := 41) ?hr ?_; (case hd => rfl); (case hg => rfl); (case hr => first | (go_simp; done) | (go_simp; rfl)); intro gb105 hg w16 hbox hb; replace HO_5 := Am (R_below (R_elderB (zR HO_5) gb105 (Nat.le_of_eq hg.symm)) hb);have BK105 := Am (hbox);have GW105 := Am (zO (w := w) HB hg);have GE105 := Am (zO (w := w) HB hg);replace HB := Am (below_step (zB HB) hb); clear hb hbox hg; obtain ⟨hcz17_0, hcz17_1, hcz17_2, hfz17_0, hfz17_1, hfz17_2⟩ := zc3 BK105))
            have n0_ : Aside0 (Kd.R k41 41 (((w16.setCell ⟨gb105, 0, none⟩ (.int .i64 (wrap64 (1 + (Int.tmod (wrap64 ((Int.tmod ((rd_T41 l0 x6_1).f0) 3) + 3)) 3))))).setCell ⟨gb105, 1, none⟩ (.int .i64 0)).setCell ⟨gb105, 2, none⟩ (.string (⟨#[]⟩ : ByteArray))) w.heap.size (fun k_ => k_ ≠ gb105) u5 x5_1) := ⟨by (with_reducible repeat (first | apply R_alloc | apply R_drewN | apply R_drew)); exact R_mono (zY (R_mono HO_5.out (fun k_ hk => (⟨hk, hk.2⟩ : _ ∧ k_ ≠ gb105))) gb105 (fun _ hk => hk.2) (.int .i64 (wrap64 (1 + (Int.tmod (wrap64 ((Int.tmod ((rd_T41 l0 x6_1).f0) 3) + 3)) 3)))) (.int .i64 0) (.string (⟨#[]⟩ : ByteArray))) (fun _ hk => hk.1.2)⟩
            have n1_ : Aside0 ((((w16.setCell ⟨gb105, 0, none⟩ (.int .i64 (wrap64 (1 + (Int.tmod (wrap64 ((Int.tmod ((rd_T41 l0 x6_1).f0) 3) + 3)) 3))))).setCell ⟨gb105, 1, none⟩ (.int .i64 0)).setCell ⟨gb105, 2, none⟩ (.string (⟨#[]⟩ : ByteArray))).heap[gb105]? = some (.cells #[.int .i64 (wrap64 (1 + (Int.tmod (wrap64 ((Int.tmod ((rd_T41 l0 x6_1).f0) 3) + 3)) 3))), .int .i64 0, .string (⟨#[]⟩ : ByteArray)] 41 (0, 0))) := ⟨(zP BK105)⟩
            have n2_ : Aside0 (Below w.heap.size w (((w16.setCell ⟨gb105, 0, none⟩ (.int .i64 (wrap64 (1 + (Int.tmod (wrap64 ((Int.tmod ((rd_T41 l0 x6_1).f0) 3) + 3)) 3))))).setCell ⟨gb105, 1, none⟩ (.int .i64 0)).setCell ⟨gb105, 2, none⟩ (.string (⟨#[]⟩ : ByteArray)))) := ⟨(zB HB)⟩
            (try clear HO_5);(try clear BK105);(try clear HB);generalize (((w16.setCell ⟨gb105, 0, none⟩ (.int .i64 (wrap64 (1 + (Int.tmod (wrap64 ((Int.tmod ((rd_T41 l0 x6_1).f0) 3) + 3)) 3))))).setCell ⟨gb105, 1, none⟩ (.int .i64 0)).setCell ⟨gb105, 2, none⟩ (.string (⟨#[]⟩ : ByteArray))) = w18 at n0_ n1_ n2_ ⊢
            have HO_5 := n0_;have BK105 := n1_;have HB := n2_;clear n0_ n1_ n2_;replace HO_5 := Am (R_drew HO_5.out);replace BK105 := Am (blk_drew BK105.out);replace HB := Am (below_drew1 HB.out);have p106 : 0 ≤ (x6_1 : Int) := of_decide_eq_true (by assumption)
            have q106 : x6_1 < (l0.length : Int) := of_decide_eq_true (by assumption)
            obtain ⟨ad106, e106, hx106_0, hx106_1, hx106_2⟩ := at_T41 HR0.out x6_1 p106 q106
            have hw106_2 := hx106_2
            have hw106_1 := hx106_1
            have hw106_0 := hx106_0
            obtain rfl : ad104 = ad106 := (by injection e106)
            replace hx106_0 := (HB.out.cell (World.block_lt_of_cell? w _ hx106_0)).trans hx106_0
            replace hx106_1 := (HB.out.cell (World.block_lt_of_cell? w _ hx106_1)).trans hx106_1
            replace hx106_2 := (HB.out.cell (World.block_lt_of_cell? w _ hx106_2)).trans hx106_2
            replace p106 := eq_true p106;replace q106 := eq_true q106;have p107 : 0 ≤ (x6_1 : Int) := of_decide_eq_true (by assumption)
            have q107 : x6_1 < (l0.length : Int) := of_decide_eq_true (by assumption)
            obtain ⟨ad107, e107, hx107_0, hx107_1, hx107_2⟩ := at_T41 HR0.out x6_1 p107 q107
            have hw107_2 := hx107_2
            have hw107_1 := hx107_1
            have hw107_0 := hx107_0
            obtain rfl : ad104 = ad107 := (by injection e107)
            replace hx107_0 := (HB.out.cell (World.block_lt_of_cell? w _ hx107_0)).trans hx107_0
            replace hx107_1 := (HB.out.cell (World.block_lt_of_cell? w _ hx107_1)).trans hx107_1
            replace hx107_2 := (HB.out.cell (World.block_lt_of_cell? w _ hx107_2)).trans hx107_2
            replace p107 := eq_true p107;replace q107 := eq_true q107;refine start_ (n := 16) (S := fun w' => w'.cell? (ad104.add ((x6_1).toNat * 3)) = some (.int .i64 ((rd_T41 l0 x6_1).f0)) ∧ w'.cell? ⟨(ad104.add ((x6_1).toNat * 3)).block, (ad104.add ((x6_1).toNat * 3)).off + 1, none⟩ = some (.int .i64 ((rd_T41 l0 x6_1).f1)) ∧ w'.cell? ⟨(ad104.add ((x6_1).toNat * 3)).block, (ad104.add ((x6_1).toNat * 3)).off + 2, none⟩ = some (.string ((rd_T41 l0 x6_1).f2)) ∧ w'.cell? (ad104.add ((x6_1).toNat * 3)) = some (.int .i64 ((rd_T41 l0 x6_1).f0)) ∧ w'.cell? ⟨(ad104.add ((x6_1).toNat * 3)).block, (ad104.add ((x6_1).toNat * 3)).off + 1, none⟩ = some (.int .i64 ((rd_T41 l0 x6_1).f1)) ∧ w'.cell? ⟨(ad104.add ((x6_1).toNat * 3)).block, (ad104.add ((x6_1).toNat * 3)).off + 2, none⟩ = some (.string ((rd_T41 l0 x6_1).f2))) (ds := []) #[false, false, false, false, false, false, false, false, false, false, false, false, false, false, false, false] (by kernel_rfl) rfl rfl ⟨((HB.out.cell (World.block_lt_of_cell? w _ hw106_0)).trans hw106_0), ((HB.out.cell (World.block_lt_of_cell? w _ hw106_1)).trans hw106_1), ((HB.out.cell (World.block_lt_of_cell? w _ hw106_2)).trans hw106_2), ((HB.out.cell (World.block_lt_of_cell? w _ hw107_0)).trans hw107_0), ((HB.out.cell (World.block_lt_of_cell? w _ hw107_1)).trans hw107_1), ((HB.out.cell (World.block_lt_of_cell? w _ hw107_2)).trans hw107_2)⟩ (fun hHeld => ?_); refine with_tabW epitomeref04_Fit.tab7 epitomeref04_Fit.bits7 (fun HT_ HW_ => ?_)
            generalize w18.drew = w19 at HO_5 BK105 HB hx106_0 hx106_1 hx106_2 hx107_0 hx107_1 hx107_2 hHeld ⊢
            refine pure_ (i := 0) (N := some 32) (v := ?_) (a' := ?_) #[true, false, false, false, false, false, false, false, false, false, false, false, false, false, false, false] rfl rfl (any_of HT_.out (by kernel_rfl)) (fun _ _ _ h => h) (Or.inl ⟨by rfl, ?_⟩) ?_ ?_
            rotate_left
            ·intro w'
             go_simp;with_reducible rfl
            rotate_left
            ·simp only [Act.put, zS, i64_w, i32_w]
             rfl
            refine pure_ (i := 1) (N := some 33) (v := ?_) (a' := ?_) #[true, true, false, false, false, false, false, false, false, false, false, false, false, false, false, false] rfl rfl (any_of HT_.out (by kernel_rfl)) (fun _ _ _ h => h) (Or.inl ⟨by rfl, ?_⟩) ?_ ?_
            rotate_left
            ·intro w'
             go_simp;with_reducible rfl
            rotate_left
            ·simp only [Act.put, zS, i64_w, i32_w]
             rfl
            refine pure_ (i := 2) (N := some 34) (v := ?_) (a' := ?_) #[true, true, true, false, false, false, false, false, false, false, false, false, false, false, false, false] rfl rfl (any_of HT_.out (by kernel_rfl)) (fun _ _ _ h => h) (Or.inl ⟨by rfl, ?_⟩) ?_ ?_
            rotate_left
            ·intro w'
             go_simp;with_reducible rfl
            rotate_left
            ·simp only [Act.put, zS, i64_w, i32_w]
             rfl
            refine pure_ (i := 3) (N := some 35) (v := ?_) (a' := ?_) #[true, true, true, true, false, false, false, false, false, false, false, false, false, false, false, false] rfl rfl (any_of HT_.out (by kernel_rfl)) (fun _ _ _ h => h) (Or.inl ⟨by rfl, ?_⟩) ?_ ?_
            rotate_left
            ·intro w'
             go_simp;with_reducible rfl
            rotate_left
            ·simp only [Act.put, zS, i64_w, i32_w]
             rfl
            refine pure_ (i := 5) (N := some 37) (v := ?_) (a' := ?_) #[true, true, true, true, false, true, false, false, false, false, false, false, false, false, false, false] rfl rfl (any_of HT_.out (by kernel_rfl)) (fun _ _ _ h => h) (Or.inl ⟨by rfl, ?_⟩) ?_ ?_
            rotate_left
            ·intro w'
             go_simp;with_reducible rfl
            rotate_left
            ·simp only [Act.put, zS, i64_w, i32_w]
             rfl
            refine pure_ (i := 6) (N := some 38) (v := ?_) (a' := ?_) #[true, true, true, true, false, true, true, false, false, false, false, false, false, false, false, false] rfl rfl (any_of HT_.out (by kernel_rfl)) (fun _ _ _ h => h) (Or.inl ⟨by rfl, ?_⟩) ?_ ?_
            rotate_left
            ·intro w'
             go_simp;with_reducible rfl
            rotate_left
            ·simp only [Act.put, zS, i64_w, i32_w]
             rfl
            refine pure_ (i := 7) (N := some 39) (v := ?_) (a' := ?_) #[true, true, true, true, false, true, true, true, false, false, false, false, false, false, false, false] rfl rfl (any_of HT_.out (by kernel_rfl)) (fun _ _ _ h => h) (Or.inl ⟨by rfl, ?_⟩) ?_ ?_
            rotate_left
            ·intro w'
             go_simp;with_reducible rfl
            rotate_left
            ·simp only [Act.put, zS, i64_w, i32_w]
             rfl
            refine pure_ (i := 8) (N := some 40) (v := ?_) (a' := ?_) #[true, true, true, true, false, true, true, true, true, false, false, false, false, false, false, false] rfl rfl (any_of HT_.out (by kernel_rfl)) (fun _ _ _ h => h) (Or.inl ⟨by rfl, ?_⟩) ?_ ?_
            rotate_left
            ·intro w'
             go_simp;with_reducible rfl
            rotate_left
            ·simp only [Act.put, zS, i64_w, i32_w]
             rfl
            refine take_ (i := 4) (N := some 36) (v := ?_) (a' := ?_) #[true, true, true, true, true, true, true, true, true, false, false, false, false, false, false, false] rfl rfl (take_ofW HT_.out HW_.out (by kernel_rfl)) (fun _ _ _ h => h) (Or.inl ⟨by rfl, ?_⟩) hHeld ?_ ?_
            rotate_left
            ·rintro w' ⟨s0, s1, s2, s3, s4, s5⟩
             go_simp;with_reducible rfl
            rotate_left
            ·simp only [Act.put, zS, i64_w, i32_w]
             rfl
            refine take_ (i := 9) (N := some 41) (v := ?_) (a' := ?_) #[true, true, true, true, true, true, true, true, true, true, false, false, false, false, false, false] rfl rfl (take_ofW HT_.out HW_.out (by kernel_rfl)) (fun _ _ _ h => h) (Or.inl ⟨by rfl, ?_⟩) hHeld ?_ ?_
            rotate_left
            ·rintro w' ⟨s0, s1, s2, s3, s4, s5⟩
             go_simp;with_reducible rfl
            rotate_left
            ·simp only [Act.put, zS, i64_w, i32_w]
             rfl
            refine pure_ (i := 10) (N := some 42) (v := ?_) (a' := ?_) #[true, true, true, true, true, true, true, true, true, true, true, false, false, false, false, false] rfl rfl (any_of HT_.out (by kernel_rfl)) (fun _ _ _ h => h) (Or.inl ⟨by rfl, ?_⟩) ?_ ?_
            rotate_left
            ·intro w'
             go_simp;with_reducible rfl
            rotate_left
            ·simp only [Act.put, zS, i64_w, i32_w]
             rfl
            refine pure_ (i := 11) (N := some 43) (v := ?_) (a' := ?_) #[true, true, true, true, true, true, true, true, true, true, true, true, false, false, false, false] rfl rfl (any_of HT_.out (by kernel_rfl)) (fun _ _ _ h => h) (Or.inl ⟨by rfl, ?_⟩) ?_ ?_
            rotate_left
            ·intro w'
             go_simp;with_reducible rfl
            rotate_left
            ·simp only [Act.put, zS, i64_w, i32_w]
             rfl
            refine pure_ (i := 12) (N := some 44) (v := ?_) (a' := ?_) #[true, true, true, true, true, true, true, true, true, true, true, true, true, false, false, false] rfl rfl (any_of HT_.out (by kernel_rfl)) (fun _ _ _ h => h) (Or.inl ⟨by rfl, ?_⟩) ?_ ?_
            rotate_left
            ·intro w'
             go_simp;with_reducible rfl
            rotate_left
            ·simp only [Act.put, zS, i64_w, i32_w]
             rfl
            refine one_ (i := 13) (N := some 45) #[true, true, true, true, true, true, true, true, true, true, true, true, true, true, false, false] rfl rfl (one_of HT_.out (by kernel_rfl)) (by decide) (fun K hK => ?_)
            refine goes_ Tryd.func23 (by kernel_rfl) rfl #[.string (((rd_T41 l0 x6_1).f2).extract 0 ((ji11) : Int).toNat)] (by rfl) rfl rfl (by (try simp only [List.map_toArray, List.map_cons, List.map_nil]); first | done | (simp only [hji11]; rfl) | rfl | (simp only [List.length_drop, List.length_take]; rfl)) ?_
            with_reducible refine (epitomeref01_Fit.calls kj4 (((rd_T41 l0 x6_1).f2).extract 0 ((ji11) : Int).toNat) t108 _ A14.out).mono ?_
            rintro e w20 ⟨rfl, hb⟩
            refine ⟨_, rfl, ?_⟩
            replace HO_5 := Am (R_below (zR HO_5) hb);replace BK105 := Am (zU BK105 hb);replace HB := Am (below_step (zB HB) hb);(try clear hb);(try clear hb2);(try clear hk);(try clear hi);refine hK.out _ _ ⟨((HB.out.cell (World.block_lt_of_cell? w _ hw106_0)).trans hw106_0), ((HB.out.cell (World.block_lt_of_cell? w _ hw106_1)).trans hw106_1), ((HB.out.cell (World.block_lt_of_cell? w _ hw106_2)).trans hw106_2), ((HB.out.cell (World.block_lt_of_cell? w _ hw107_0)).trans hw107_0), ((HB.out.cell (World.block_lt_of_cell? w _ hw107_1)).trans hw107_1), ((HB.out.cell (World.block_lt_of_cell? w _ hw107_2)).trans hw107_2)⟩ (fun hHeld => ?_)
            clear hK K;refine norm_ (a' := ?_) ?_ ?_
            rotate_left
            ·show Act.put _ (some 45) _ = _
             simp only [Act.put, zS, i64_w, i32_w]
             rfl
            refine pure_ (i := 14) (N := some 46) (v := ?_) (a' := ?_) #[true, true, true, true, true, true, true, true, true, true, true, true, true, true, true, false] rfl rfl (any_of HT_.out (by kernel_rfl)) (fun _ _ _ h => h) (Or.inl ⟨by rfl, ?_⟩) ?_ ?_
            rotate_left
            ·intro w'
             go_simp;with_reducible rfl
            rotate_left
            ·simp only [Act.put, zS, i64_w, i32_w]
             rfl
            refine one_ (i := 15) (N := none) #[true, true, true, true, true, true, true, true, true, true, true, true, true, true, true, true] rfl rfl (one_of HT_.out (by kernel_rfl)) (by decide) (fun K hK => ?_)
            have hs21 : w20.cell? ⟨gb105, 2, none⟩ = some (.string (⟨#[]⟩ : ByteArray)) := (blk_cell BK105.out 2).trans rfl
            have hfs21 := blk_frozen BK105.out 2;refine skip_ (w1 := ?_) (by rfl) rfl ?_ ?_
            rotate_left
            ·go_simp;rfl
            refine hK.out _ _ ⟨((cell_far (p := ⟨gb105, _, none⟩) (by first | exact Nat.ne_of_lt (Nat.lt_of_lt_of_le (by have := World.block_lt_of_cell? _ _ hw106_0; first | rwa [add_block] at this | exact this) GW105.out) | (rw [add_block]; exact Nat.ne_of_lt (Nat.lt_of_lt_of_le (by have := World.block_lt_of_cell? _ _ hw106_0; first | rwa [add_block] at this | exact this) GW105.out)) | (show (Addr.add _ _).block ≠ _; rw [add_block]; exact Nat.ne_of_lt (Nat.lt_of_lt_of_le (by have := World.block_lt_of_cell? _ _ hw106_0; first | rwa [add_block] at this | exact this) GW105.out)) | (dsimp only; exact Nat.ne_of_lt (Nat.lt_of_lt_of_le (by have := World.block_lt_of_cell? _ _ hw106_0; first | rwa [add_block] at this | exact this) GW105.out))) _).trans (hHeld.1)), ((cell_far (p := ⟨gb105, _, none⟩) (by first | exact Nat.ne_of_lt (Nat.lt_of_lt_of_le (by have := World.block_lt_of_cell? _ _ hw106_1; first | rwa [add_block] at this | exact this) GW105.out) | (rw [add_block]; exact Nat.ne_of_lt (Nat.lt_of_lt_of_le (by have := World.block_lt_of_cell? _ _ hw106_1; first | rwa [add_block] at this | exact this) GW105.out)) | (show (Addr.add _ _).block ≠ _; rw [add_block]; exact Nat.ne_of_lt (Nat.lt_of_lt_of_le (by have := World.block_lt_of_cell? _ _ hw106_1; first | rwa [add_block] at this | exact this) GW105.out)) | (dsimp only; exact Nat.ne_of_lt (Nat.lt_of_lt_of_le (by have := World.block_lt_of_cell? _ _ hw106_1; first | rwa [add_block] at this | exact this) GW105.out))) _).trans (hHeld.2.1)), ((cell_far (p := ⟨gb105, _, none⟩) (by first | exact Nat.ne_of_lt (Nat.lt_of_lt_of_le (by have := World.block_lt_of_cell? _ _ hw106_2; first | rwa [add_block] at this | exact this) GW105.out) | (rw [add_block]; exact Nat.ne_of_lt (Nat.lt_of_lt_of_le (by have := World.block_lt_of_cell? _ _ hw106_2; first | rwa [add_block] at this | exact this) GW105.out)) | (show (Addr.add _ _).block ≠ _; rw [add_block]; exact Nat.ne_of_lt (Nat.lt_of_lt_of_le (by have := World.block_lt_of_cell? _ _ hw106_2; first | rwa [add_block] at this | exact this) GW105.out)) | (dsimp only; exact Nat.ne_of_lt (Nat.lt_of_lt_of_le (by have := World.block_lt_of_cell? _ _ hw106_2; first | rwa [add_block] at this | exact this) GW105.out))) _).trans (hHeld.2.2.1)), ((cell_far (p := ⟨gb105, _, none⟩) (by first | exact Nat.ne_of_lt (Nat.lt_of_lt_of_le (by have := World.block_lt_of_cell? _ _ hw107_0; first | rwa [add_block] at this | exact this) GW105.out) | (rw [add_block]; exact Nat.ne_of_lt (Nat.lt_of_lt_of_le (by have := World.block_lt_of_cell? _ _ hw107_0; first | rwa [add_block] at this | exact this) GW105.out)) | (show (Addr.add _ _).block ≠ _; rw [add_block]; exact Nat.ne_of_lt (Nat.lt_of_lt_of_le (by have := World.block_lt_of_cell? _ _ hw107_0; first | rwa [add_block] at this | exact this) GW105.out)) | (dsimp only; exact Nat.ne_of_lt (Nat.lt_of_lt_of_le (by have := World.block_lt_of_cell? _ _ hw107_0; first | rwa [add_block] at this | exact this) GW105.out))) _).trans (hHeld.2.2.2.1)), ((cell_far (p := ⟨gb105, _, none⟩) (by first | exact Nat.ne_of_lt (Nat.lt_of_lt_of_le (by have := World.block_lt_of_cell? _ _ hw107_1; first | rwa [add_block] at this | exact this) GW105.out) | (rw [add_block]; exact Nat.ne_of_lt (Nat.lt_of_lt_of_le (by have := World.block_lt_of_cell? _ _ hw107_1; first | rwa [add_block] at this | exact this) GW105.out)) | (show (Addr.add _ _).block ≠ _; rw [add_block]; exact Nat.ne_of_lt (Nat.lt_of_lt_of_le (by have := World.block_lt_of_cell? _ _ hw107_1; first | rwa [add_block] at this | exact this) GW105.out)) | (dsimp only; exact Nat.ne_of_lt (Nat.lt_of_lt_of_le (by have := World.block_lt_of_cell? _ _ hw107_1; first | rwa [add_block] at this | exact this) GW105.out))) _).trans (hHeld.2.2.2.2.1)), ((cell_far (p := ⟨gb105, _, none⟩) (by first | exact Nat.ne_of_lt (Nat.lt_of_lt_of_le (by have := World.block_lt_of_cell? _ _ hw107_2; first | rwa [add_block] at this | exact this) GW105.out) | (rw [add_block]; exact Nat.ne_of_lt (Nat.lt_of_lt_of_le (by have := World.block_lt_of_cell? _ _ hw107_2; first | rwa [add_block] at this | exact this) GW105.out)) | (show (Addr.add _ _).block ≠ _; rw [add_block]; exact Nat.ne_of_lt (Nat.lt_of_lt_of_le (by have := World.block_lt_of_cell? _ _ hw107_2; first | rwa [add_block] at this | exact this) GW105.out)) | (dsimp only; exact Nat.ne_of_lt (Nat.lt_of_lt_of_le (by have := World.block_lt_of_cell? _ _ hw107_2; first | rwa [add_block] at this | exact this) GW105.out))) _).trans (hHeld.2.2.2.2.2))⟩ (fun hHeld => ?_)
            clear hK K;refine done_ (done_of HT_.out (by kernel_rfl)) ?_
            obtain ⟨hcz22_0, hcz22_1, hcz22_2, hfz22_0, hfz22_1, hfz22_2⟩ := zc3 BK105;try go_wp2_with (first | ((with_reducible refine gate_builtin (b := .append) (xs := #[.tmp 62, .tmp 64]) rfl ?_); at_builtin; refine R_append k41 (w0 := w) w.heap.size rfl (.tmp 62) (.tmp 64) 24 41 (.agg #[(.int .i64 0), (.int .i64 0), (.string ⟨#[]⟩)]) 32 rfl Tryd.underlying24 info41 rfl (by decide) (by omega) u5 x5_1 (⟨wrap64 (1 + (Int.tmod (wrap64 ((Int.tmod ((rd_T41 l0 x6_1).f0) 3) + 3)) 3)), 0, t108⟩ : S41) [.int .i64 (wrap64 (1 + (Int.tmod (wrap64 ((Int.tmod ((rd_T41 l0 x6_1).f0) 3) + 3)) 3))), .int .i64 0, .string t108] (fun k_ => k_ ≠ gb105) (fun _ => False) rfl (by first | (go_simp; done) | (go_simp; rfl)) ?aP (fun _ hk => hk.elim) ?aF ?aO ?aB ?aS ?aL ?_; (case aP => exact k41_mkM _ _ _ (⟨wrap64 (1 + (Int.tmod (wrap64 ((Int.tmod ((rd_T41 l0 x6_1).f0) 3) + 3)) 3)), 0, t108⟩ : S41)); (case aB => exact (zB HB)); (case aF => exact (fun k_ hk => Kd.freshB (g := gb105) (o := .cells #[.int .i64 (wrap64 (1 + (Int.tmod (wrap64 ((Int.tmod ((rd_T41 l0 x6_1).f0) 3) + 3)) 3))), .int .i64 0, .string t108] 41 (0, 0)) (zP BK105) k_ hk)); (case aO => exact (by (with_reducible repeat (first | apply R_alloc | apply R_drewN | apply R_drew)); exact R_mono (R_far (p := ⟨gb105, 2, none⟩) (R_mono HO_5.out (fun k_ hk => (⟨hk, hk⟩ : _ ∧ k_ ≠ gb105))) (fun _ hk => hk.2) (.string t108)) (fun _ hk => hk.1))); (case aS => exact (below_size (zB HB))); (case aL => have := LMc15.out; omega); intro v110 w23 ho hb hg hat; rw [← Ny109.out] at ho; replace BK105 := Am (blk_grown (g := gb105) (o := .cells #[.int .i64 (wrap64 (1 + (Int.tmod (wrap64 ((Int.tmod ((rd_T41 l0 x6_1).f0) 3) + 3)) 3))), .int .i64 0, .string t108] 41 (0, 0)) (zP BK105) hg (R_away HO_5.out (fun _ hk => hk)));replace HB := Am (hb);have HO111 := Am (ho);clear HO_5; clear ho hb hg hat))
            go_roundg kj4
            case measure => have := HK1.out; have := HJ4.out; omega
            case rel => exact ⟨(x1_1), (y109), (wrap64 (x6_1 + 1)), zG, zG, H', ⟨by have := HK1.out; have := HJ4.out; omega⟩, ⟨by (with_reducible repeat (first | apply R_alloc | apply R_drewN | apply R_drew)); exact R_mono HO111.out (fun _ hk => trivial)⟩, ⟨(zB HB)⟩⟩
           ·rw [if_neg c15] at H;exact absurd H (by simp)
          ·rw [if_neg c13] at H;exact absurd H (by simp)
         ·rw [if_neg c12] at H;exact absurd H (by simp)
        ·rw [if_neg c10] at H;have c10b0 : ((wrap64 (1 + (Int.tmod (wrap64 ((Int.tmod ((rd_T41 l0 x6_1).f0) 3) + 3)) 3))) == 2) = false := beq_eq_false_iff_ne.mpr c10
         have c10b1 : ((wrap64 (1 + (Int.tmod (wrap64 ((Int.tmod ((rd_T41 l0 x6_1).f0) 3) + 3)) 3))) != 2) = true := bne_iff_ne.mpr c10
         obtain ⟨ji24, hji24⟩ : ∃ j_ : Int, (mn (Int.tmod (wrap64 ((Int.tmod ((rd_T41 l0 x6_1).f1) 7) + 7)) 7) x1_1) = j_ := ⟨_, rfl⟩
         replace H : (if x5_1.length < 4398046511104 then (epitomeref04_Fit.l0 kj4 l0 (wrap64 (x1_1 - (ji24))) (x5_1 ++ [(⟨wrap64 (1 + (Int.tmod (wrap64 ((Int.tmod ((rd_T41 l0 x6_1).f0) 3) + 3)) 3)), ji24, (⟨#[]⟩ : ByteArray)⟩ : S41)]) (wrap64 (x6_1 + 1))) else (none)) = some r := by first | (rw [hji24] at H; exact H) | (simp only [hji24] at H ⊢; exact H)
         have hji24_ : (if x1_1 < (Int.tmod (wrap64 ((Int.tmod ((rd_T41 l0 x6_1).f1) 7) + 7)) 7) then x1_1 else (Int.tmod (wrap64 ((Int.tmod ((rd_T41 l0 x6_1).f1) 7) + 7)) 7)) = ji24 := hji24
         by_cases c25 : x5_1.length < 4398046511104
         ·rw [if_pos c25] at H;have LMc25 := Am c25;clear c25;obtain ⟨y113, hy113⟩ : ∃ y_ : List (S41), y_ = (x5_1 ++ [(⟨wrap64 (1 + (Int.tmod (wrap64 ((Int.tmod ((rd_T41 l0 x6_1).f0) 3) + 3)) 3)), ji24, (⟨#[]⟩ : ByteArray)⟩ : S41)]) := ⟨_, rfl⟩
          replace H : (epitomeref04_Fit.l0 kj4 l0 (wrap64 (x1_1 - (ji24))) y113 (wrap64 (x6_1 + 1))) = some r := by first | (rw [hy113]; with_reducible exact H) | (have H2_ := (Option.bind_some _ _).symm.trans H; rw [hy113]; with_reducible exact H2_) | (have H2_ := (Option.bind_some _ _).symm.trans H; with_reducible exact H2_) | with_reducible exact H | (rw [hy113]; exact H) | exact H
          have Ny113 := Am hy113;clear hy113;have H' := Am H
          clear H;have p104 : 0 ≤ (x6_1 : Int) := of_decide_eq_true (by assumption)
          have q104 : x6_1 < (l0.length : Int) := of_decide_eq_true (by assumption)
          obtain ⟨ad104, e104, hx104_0, hx104_1, hx104_2⟩ := at_T41 HR0.out x6_1 p104 q104
          cases e104
          replace hx104_0 := (HB.out.cell (World.block_lt_of_cell? w _ hx104_0)).trans hx104_0
          replace hx104_1 := (HB.out.cell (World.block_lt_of_cell? w _ hx104_1)).trans hx104_1
          replace hx104_2 := (HB.out.cell (World.block_lt_of_cell? w _ hx104_2)).trans hx104_2
          replace p104 := eq_true p104;replace q104 := eq_true q104;go_wp2_with (first | ((with_reducible refine gate_dst (N := 7) rfl ?_); refine box_event ?hg (N := 7) ?hd (cs := #[.int .i64 0, .int .i64 0, .string (⟨#[]⟩ : ByteArray)]) (t := 41) ?hr ?_; (case hd => rfl); (case hg => rfl); (case hr => first | (go_simp; done) | (go_simp; rfl)); intro gb105 hg w26 hbox hb; replace HO_5 := Am (R_below (R_elderB (zR HO_5) gb105 (Nat.le_of_eq hg.symm)) hb);have BK105 := Am (hbox);have GW105 := Am (zO (w := w) HB hg);have GE105 := Am (zO (w := w) HB hg);replace HB := Am (below_step (zB HB) hb); clear hb hbox hg; obtain ⟨hcz27_0, hcz27_1, hcz27_2, hfz27_0, hfz27_1, hfz27_2⟩ := zc3 BK105; have p112 : 0 ≤ (x6_1 : Int) := of_decide_eq_true (by assumption); have q112 : x6_1 < (l0.length : Int) := of_decide_eq_true (by assumption); obtain ⟨ad112, e112, hx112_0, hx112_1, hx112_2⟩ := at_T41 HR0.out x6_1 p112 q112; obtain rfl : ad104 = ad112 := (by injection e112); have hn112_0 : ad104.block ≠ gb105 := Nat.ne_of_lt (Nat.lt_of_lt_of_le (by have := World.block_lt_of_cell? _ _ hx112_0; first | rwa [add_block] at this | exact this) GW105.out); have hn112_1 : ad104.block ≠ gb105 := Nat.ne_of_lt (Nat.lt_of_lt_of_le (by have := World.block_lt_of_cell? _ _ hx112_0; first | rwa [add_block] at this | exact this) GW105.out); have hn112_2 : ad104.block ≠ gb105 := Nat.ne_of_lt (Nat.lt_of_lt_of_le (by have := World.block_lt_of_cell? _ _ hx112_0; first | rwa [add_block] at this | exact this) GW105.out); replace hx112_0 := (HB.out.cell (World.block_lt_of_cell? w _ hx112_0)).trans hx112_0; replace hx112_1 := (HB.out.cell (World.block_lt_of_cell? w _ hx112_1)).trans hx112_1; replace hx112_2 := (HB.out.cell (World.block_lt_of_cell? w _ hx112_2)).trans hx112_2; replace hx112_0 := (cell_far (p := ⟨gb105, 0, none⟩) (zN hn112_0) (.int .i64 (wrap64 (1 + (Int.tmod (wrap64 ((Int.tmod ((rd_T41 l0 x6_1).f0) 3) + 3)) 3))))).trans hx112_0; replace hx112_1 := (cell_far (p := ⟨gb105, 0, none⟩) (zN hn112_0) (.int .i64 (wrap64 (1 + (Int.tmod (wrap64 ((Int.tmod ((rd_T41 l0 x6_1).f0) 3) + 3)) 3))))).trans hx112_1; replace hx112_2 := (cell_far (p := ⟨gb105, 0, none⟩) (zN hn112_0) (.int .i64 (wrap64 (1 + (Int.tmod (wrap64 ((Int.tmod ((rd_T41 l0 x6_1).f0) 3) + 3)) 3))))).trans hx112_2; replace hx112_0 := (cell_far (p := ⟨gb105, 1, none⟩) (zN hn112_1) (.int .i64 0)).trans hx112_0; replace hx112_1 := (cell_far (p := ⟨gb105, 1, none⟩) (zN hn112_1) (.int .i64 0)).trans hx112_1; replace hx112_2 := (cell_far (p := ⟨gb105, 1, none⟩) (zN hn112_1) (.int .i64 0)).trans hx112_2; replace hx112_0 := (cell_far (p := ⟨gb105, 2, none⟩) (zN hn112_2) (.string (⟨#[]⟩ : ByteArray))).trans hx112_0; replace hx112_1 := (cell_far (p := ⟨gb105, 2, none⟩) (zN hn112_2) (.string (⟨#[]⟩ : ByteArray))).trans hx112_1; replace hx112_2 := (cell_far (p := ⟨gb105, 2, none⟩) (zN hn112_2) (.string (⟨#[]⟩ : ByteArray))).trans hx112_2; clear hn112_0; clear hn112_1; clear hn112_2; replace p112 := eq_true p112; replace q112 := eq_true q112) | ((with_reducible refine gate_builtin (b := .append) (xs := #[.tmp 62, .tmp 64]) rfl ?_); at_builtin; refine R_append k41 (w0 := w) w.heap.size rfl (.tmp 62) (.tmp 64) 24 41 (.agg #[(.int .i64 0), (.int .i64 0), (.string ⟨#[]⟩)]) 32 rfl Tryd.underlying24 info41 rfl (by decide) (by omega) u5 x5_1 (⟨wrap64 (1 + (Int.tmod (wrap64 ((Int.tmod ((rd_T41 l0 x6_1).f0) 3) + 3)) 3)), ji24, (⟨#[]⟩ : ByteArray)⟩ : S41) [.int .i64 (wrap64 (1 + (Int.tmod (wrap64 ((Int.tmod ((rd_T41 l0 x6_1).f0) 3) + 3)) 3))), .int .i64 ji24, .string (⟨#[]⟩ : ByteArray)] (fun k_ => k_ ≠ gb105) (fun _ => False) rfl (by first | (go_simp; done) | (go_simp; rfl)) ?aP (fun _ hk => hk.elim) ?aF ?aO ?aB ?aS ?aL ?_; (case aP => exact k41_mkM _ _ _ (⟨wrap64 (1 + (Int.tmod (wrap64 ((Int.tmod ((rd_T41 l0 x6_1).f0) 3) + 3)) 3)), ji24, (⟨#[]⟩ : ByteArray)⟩ : S41)); (case aB => exact (zB HB)); (case aF => exact (fun k_ hk => Kd.freshB (g := gb105) (o := .cells #[.int .i64 (wrap64 (1 + (Int.tmod (wrap64 ((Int.tmod ((rd_T41 l0 x6_1).f0) 3) + 3)) 3))), .int .i64 ji24, .string (⟨#[]⟩ : ByteArray)] 41 (0, 0)) (zP BK105) k_ hk)); (case aO => exact (by (with_reducible repeat (first | apply R_alloc | apply R_drewN | apply R_drew)); exact R_mono (R_far (p := ⟨gb105, 1, none⟩) (zY (R_mono HO_5.out (fun k_ hk => (⟨hk, hk.2⟩ : _ ∧ k_ ≠ gb105))) gb105 (fun _ hk => hk.2) (.int .i64 (wrap64 (1 + (Int.tmod (wrap64 ((Int.tmod ((rd_T41 l0 x6_1).f0) 3) + 3)) 3)))) (.int .i64 0) (.string (⟨#[]⟩ : ByteArray))) (fun _ hk => hk.2) (.int .i64 ji24)) (fun _ hk => hk.1.2))); (case aS => exact (below_size (zB HB))); (case aL => have := LMc25.out; omega); intro v114 w28 ho hb hg hat; rw [← Ny113.out] at ho; replace BK105 := Am (blk_grown (g := gb105) (o := .cells #[.int .i64 (wrap64 (1 + (Int.tmod (wrap64 ((Int.tmod ((rd_T41 l0 x6_1).f0) 3) + 3)) 3))), .int .i64 ji24, .string (⟨#[]⟩ : ByteArray)] 41 (0, 0)) (zP BK105) hg (R_away HO_5.out (fun _ hk => hk.2)));replace HB := Am (hb);have HO115 := Am (ho);clear HO_5; clear ho hb hg hat))
          go_roundg kj4
          case measure => have := HK1.out; have := HJ4.out; omega
          case rel => exact ⟨(wrap64 (x1_1 - (ji24))), (y113), (wrap64 (x6_1 + 1)), (by first | rfl | (simp; done) | (simp only [← hji24] <;> (first | rfl | simp)) | (simp [*]; done)), zG, H', ⟨by have := HK1.out; have := HJ4.out; omega⟩, ⟨by (with_reducible repeat (first | apply R_alloc | apply R_drewN | apply R_drew)); exact R_mono HO115.out (fun _ hk => trivial)⟩, ⟨(zB HB)⟩⟩
         ·rw [if_neg c25] at H;exact absurd H (by simp)
       ·rw [if_neg c9] at H;exact absurd H (by simp)
      ·rw [if_neg c8] at H;exact absurd H (by simp)
     ·replace c7 := Bool.eq_false_iff.mpr c7
      subst c7
      have H1 : (if x1_1 > 0 then (if x5_1.length < 4398046511104 then (some (x5_1 ++ [(⟨1, x1_1, (⟨#[]⟩ : ByteArray)⟩ : S41)])) else (none)) else (some x5_1)) = some r := by rw [if_neg (show ¬ (false = true) by decide)] at H; exact H
      clear H;have H := H1
      clear H1;by_cases c29 : x1_1 > 0
      ·rw [if_pos c29] at H;have c29b0 : decide (0 < x1_1) = true := decide_eq_true c29
       clear c29;by_cases c30 : x5_1.length < 4398046511104
       ·rw [if_pos c30] at H;have LMc30 := Am c30;clear c30;obtain ⟨y116, hy116⟩ : ∃ y_ : List (S41), y_ = (x5_1 ++ [(⟨1, x1_1, (⟨#[]⟩ : ByteArray)⟩ : S41)]) := ⟨_, rfl⟩
        replace H : (some y116) = some r := by first | (rw [hy116]; with_reducible exact H) | (have H2_ := (Option.bind_some _ _).symm.trans H; rw [hy116]; with_reducible exact H2_) | (have H2_ := (Option.bind_some _ _).symm.trans H; with_reducible exact H2_) | with_reducible exact H | (rw [hy116]; exact H) | exact H
        have Ny116 := Am hy116;clear hy116;obtain rfl := Option.some.inj H;go_wp2_with (first | ((with_reducible refine gate_builtin (b := .append) (xs := #[.tmp 68, .tmp 71]) rfl ?_); at_builtin; refine R_append k41 (w0 := w) w.heap.size rfl (.tmp 68) (.tmp 71) 24 41 (.agg #[(.int .i64 0), (.int .i64 0), (.string ⟨#[]⟩)]) 32 rfl Tryd.underlying24 info41 rfl (by decide) (by omega) u5 x5_1 (⟨1, x1_1, (⟨#[]⟩ : ByteArray)⟩ : S41) [.int .i64 1, .int .i64 x1_1, .string (⟨#[]⟩ : ByteArray)] (fun _ => True) (fun _ => False) rfl rfl ?aP (fun _ hk => hk.elim) ?aF ?aO ?aB ?aS ?aL ?_; (case aP => exact k41_mkM _ _ _ (⟨1, x1_1, (⟨#[]⟩ : ByteArray)⟩ : S41)); (case aB => exact (zB HB)); (case aF => exact (fun _ _ => trivial)); (case aO => exact (zR HO_5)); (case aS => exact (below_size (zB HB))); (case aL => have := LMc30.out; omega); intro v117 w31 ho hb hg hat; rw [← Ny116.out] at ho; replace HB := Am (hb);have HO118 := Am (ho);clear HO_5; clear ho hb hg hat))
        go_ret
        exact ⟨_, zF, (zR HO118), (zB HB)⟩
       ·rw [if_neg c30] at H;exact absurd H (by simp)
      ·rw [if_neg c29] at H;have c29b0 : decide (0 < x1_1) = false := decide_eq_false c29
       clear c29;obtain rfl := Option.some.inj H;go_wp2
       go_ret
       exact ⟨_, zF, (zR HO_5), (zB HB)⟩
end Go.Proofs.YthhgobiaecehbaaDoor.F
end
section
namespace Go.Proofs.YthhgobiaecehbaaDoor.F
open Go.RowKit Go.Proofs.YthhgobiaecehbaaDoorW.PrintWords Go.Proofs.YthhgobiaecehbaaDoorW.PrintLast Go.Proofs.YthhgobiaecehbaaDoorW.PrintMore
attribute [local go_sem] max2_int min2_int max_two min_two max_three min_three max_four min_four cell_setCell_isSome
set_option linter.unusedVariables false
set_option linter.unusedSimpArgs false
open Kd
mutual
def epitomeref01_first.j0 : Nat → ByteArray → Int → Int → Int → Bool → Option (Int × Int)
  | 0, _, _, _, _, _ => none
  | k + 1, x0, x4, x5, x6, x21 => if x21 = true then (epitomeref01_first.j3 k x0 3 (wrap64 (x4 - 240))) else (if x4 ≥ 224 then (epitomeref01_first.j1 k x0 x4 x5 x6 (decide (x4 < 240))) else (epitomeref01_first.j1 k x0 x4 x5 x6 false))
def epitomeref01_first.j3 : Nat → ByteArray → Int → Int → Option (Int × Int)
  | 0, _, _, _ => none
  | k + 1, x0, x5, x6 => if (x0.size : Int) < (wrap64 (x5 + 1)) then (some (0, 0)) else (epitomeref01_first.l0 k x0 x5 x6 1)
def epitomeref01_first.l0 : Nat → ByteArray → Int → Int → Int → Option (Int × Int)
  | 0, _, _, _, _ => none
  | k + 1, x0, x5, x6, x7 => if x7 ≤ x5 then (if 0 ≤ x7 then (if x7 < (x0.size : Int) then (if (wrap64 (bt x0 x7)) < 128 then (some (0, 0)) else (if (wrap64 (bt x0 x7)) > 191 then (some (0, 0)) else (epitomeref01_first.l0 k x0 x5 (wrap64 ((wrap64 ((wrap64 (x6 * 64)) + (wrap64 (bt x0 x7)))) - 128)) (wrap64 (x7 + 1))))) else (none)) else (none)) else ((epitomeref01_size.f k x6).bind fun t101 => (if t101 = (wrap64 (x5 + 1)) then (some (x6, wrap64 (x5 + 1))) else (some (0, 0))))
def epitomeref01_first.j1 : Nat → ByteArray → Int → Int → Int → Bool → Option (Int × Int)
  | 0, _, _, _, _, _ => none
  | k + 1, x0, x4, x5, x6, x29 => if x29 = true then (epitomeref01_first.j3 k x0 2 (wrap64 (x4 - 224))) else (if x4 ≥ 192 then (epitomeref01_first.j2 k x0 x4 x5 x6 (decide (x4 < 224))) else (epitomeref01_first.j2 k x0 x4 x5 x6 false))
def epitomeref01_first.j2 : Nat → ByteArray → Int → Int → Int → Bool → Option (Int × Int)
  | 0, _, _, _, _, _ => none
  | k + 1, x0, x4, x5, x6, x37 => if x37 = true then (epitomeref01_first.j3 k x0 1 (wrap64 (x4 - 192))) else (if x4 ≥ 128 then (some (0, 0)) else (epitomeref01_first.j3 k x0 x5 x6))
end
def epitomeref01_first.f (k : Nat) (a0 : ByteArray) : Option (Int × Int) := if (a0.size : Int) = 0 then (some (0, 0)) else (if 0 < (a0.size : Int) then (if (wrap64 (bt a0 0)) ≥ 240 then (epitomeref01_first.j0 k a0 (wrap64 (bt a0 0)) 0 (wrap64 (bt a0 0)) (decide ((wrap64 (bt a0 0)) < 248))) else (epitomeref01_first.j0 k a0 (wrap64 (bt a0 0)) 0 (wrap64 (bt a0 0)) false)) else (none))
theorem epitomeref01_first.mono_l : ∀ k, (∀ y0 y1 y2 y3 y4, LeO (epitomeref01_first.j0 k y0 y1 y2 y3 y4) (epitomeref01_first.j0 (k + 1) y0 y1 y2 y3 y4)) ∧ (∀ y0 y1 y2, LeO (epitomeref01_first.j3 k y0 y1 y2) (epitomeref01_first.j3 (k + 1) y0 y1 y2)) ∧ (∀ y0 y1 y2 y3, LeO (epitomeref01_first.l0 k y0 y1 y2 y3) (epitomeref01_first.l0 (k + 1) y0 y1 y2 y3)) ∧ (∀ y0 y1 y2 y3 y4, LeO (epitomeref01_first.j1 k y0 y1 y2 y3 y4) (epitomeref01_first.j1 (k + 1) y0 y1 y2 y3 y4)) ∧ (∀ y0 y1 y2 y3 y4, LeO (epitomeref01_first.j2 k y0 y1 y2 y3 y4) (epitomeref01_first.j2 (k + 1) y0 y1 y2 y3 y4))
  | 0 => ⟨fun _ _ _ _ _ r h => by simp [epitomeref01_first.j0] at h, fun _ _ _ r h => by simp [epitomeref01_first.j3] at h, fun _ _ _ _ r h => by simp [epitomeref01_first.l0] at h, fun _ _ _ _ _ r h => by simp [epitomeref01_first.j1] at h, fun _ _ _ _ _ r h => by simp [epitomeref01_first.j2] at h⟩
  | k + 1 => by
    obtain ⟨ih0, ih1, ih2, ih3, ih4⟩ := epitomeref01_first.mono_l k
    refine ⟨?_, ?_, ?_, ?_, ?_⟩
    · intro y0 y1 y2 y3 y4
      unfold epitomeref01_first.j0
      repeat' first
      | (with_reducible exact ih0 _ _ _ _ _)
      | (with_reducible exact ih1 _ _ _)
      | (with_reducible exact ih2 _ _ _ _)
      | (with_reducible exact ih3 _ _ _ _ _)
      | (with_reducible exact ih4 _ _ _ _ _)
      | (with_reducible exact epitomeref01_size.mono _ _)
      | (with_reducible exact LeO.refl _)
      | (with_reducible exact LeO.none _)
      | (with_reducible refine LeO.ite ?_ ?_)
      | (with_reducible refine LeO.bind ?_ (fun _ => ?_))
      | exact ih0 _ _ _ _ _
      | exact ih1 _ _ _
      | exact ih2 _ _ _ _
      | exact ih3 _ _ _ _ _
      | exact ih4 _ _ _ _ _
      | exact epitomeref01_size.mono _ _
      | exact LeO.none _
      | refine LeO.ite ?_ ?_
      | refine LeO.bind ?_ (fun _ => ?_)
    · intro y0 y1 y2
      unfold epitomeref01_first.j3
      repeat' first
      | (with_reducible exact ih0 _ _ _ _ _)
      | (with_reducible exact ih1 _ _ _)
      | (with_reducible exact ih2 _ _ _ _)
      | (with_reducible exact ih3 _ _ _ _ _)
      | (with_reducible exact ih4 _ _ _ _ _)
      | (with_reducible exact epitomeref01_size.mono _ _)
      | (with_reducible exact LeO.refl _)
      | (with_reducible exact LeO.none _)
      | (with_reducible refine LeO.ite ?_ ?_)
      | (with_reducible refine LeO.bind ?_ (fun _ => ?_))
      | exact ih0 _ _ _ _ _
      | exact ih1 _ _ _
      | exact ih2 _ _ _ _
      | exact ih3 _ _ _ _ _
      | exact ih4 _ _ _ _ _
      | exact epitomeref01_size.mono _ _
      | exact LeO.none _
      | refine LeO.ite ?_ ?_
      | refine LeO.bind ?_ (fun _ => ?_)
    · intro y0 y1 y2 y3
      unfold epitomeref01_first.l0
      repeat' first
      | (with_reducible exact ih0 _ _ _ _ _)
      | (with_reducible exact ih1 _ _ _)
      | (with_reducible exact ih2 _ _ _ _)
      | (with_reducible exact ih3 _ _ _ _ _)
      | (with_reducible exact ih4 _ _ _ _ _)
      | (with_reducible exact epitomeref01_size.mono _ _)
      | (with_reducible exact LeO.refl _)
      | (with_reducible exact LeO.none _)
      | (with_reducible refine LeO.ite ?_ ?_)
      | (with_reducible refine LeO.bind ?_ (fun _ => ?_))
      | exact ih0 _ _ _ _ _
      | exact ih1 _ _ _
      | exact ih2 _ _ _ _
      | exact ih3 _ _ _ _ _
      | exact ih4 _ _ _ _ _
      | exact epitomeref01_size.mono _ _
      | exact LeO.none _
      | refine LeO.ite ?_ ?_
      | refine LeO.bind ?_ (fun _ => ?_)
    · intro y0 y1 y2 y3 y4
      unfold epitomeref01_first.j1
      repeat' first
      | (with_reducible exact ih0 _ _ _ _ _)
      | (with_reducible exact ih1 _ _ _)
      | (with_reducible exact ih2 _ _ _ _)
      | (with_reducible exact ih3 _ _ _ _ _)
      | (with_reducible exact ih4 _ _ _ _ _)
      | (with_reducible exact epitomeref01_size.mono _ _)
      | (with_reducible exact LeO.refl _)
      | (with_reducible exact LeO.none _)
      | (with_reducible refine LeO.ite ?_ ?_)
      | (with_reducible refine LeO.bind ?_ (fun _ => ?_))
      | exact ih0 _ _ _ _ _
      | exact ih1 _ _ _
      | exact ih2 _ _ _ _
      | exact ih3 _ _ _ _ _
      | exact ih4 _ _ _ _ _
      | exact epitomeref01_size.mono _ _
      | exact LeO.none _
      | refine LeO.ite ?_ ?_
      | refine LeO.bind ?_ (fun _ => ?_)
    · intro y0 y1 y2 y3 y4
      unfold epitomeref01_first.j2
      repeat' first
      | (with_reducible exact ih0 _ _ _ _ _)
      | (with_reducible exact ih1 _ _ _)
      | (with_reducible exact ih2 _ _ _ _)
      | (with_reducible exact ih3 _ _ _ _ _)
      | (with_reducible exact ih4 _ _ _ _ _)
      | (with_reducible exact epitomeref01_size.mono _ _)
      | (with_reducible exact LeO.refl _)
      | (with_reducible exact LeO.none _)
      | (with_reducible refine LeO.ite ?_ ?_)
      | (with_reducible refine LeO.bind ?_ (fun _ => ?_))
      | exact ih0 _ _ _ _ _
      | exact ih1 _ _ _
      | exact ih2 _ _ _ _
      | exact ih3 _ _ _ _ _
      | exact ih4 _ _ _ _ _
      | exact epitomeref01_size.mono _ _
      | exact LeO.none _
      | refine LeO.ite ?_ ?_
      | refine LeO.bind ?_ (fun _ => ?_)
theorem epitomeref01_first.mono : ∀ a0 k, LeO (epitomeref01_first.f k a0) (epitomeref01_first.f (k + 1) a0) := by
  intro a0 k
  obtain ⟨ih0, ih1, ih2, ih3, ih4⟩ := epitomeref01_first.mono_l k
  unfold epitomeref01_first.f
  repeat' first
      | (with_reducible exact ih0 _ _ _ _ _)
      | (with_reducible exact ih1 _ _ _)
      | (with_reducible exact ih2 _ _ _ _)
      | (with_reducible exact ih3 _ _ _ _ _)
      | (with_reducible exact ih4 _ _ _ _ _)
      | (with_reducible exact epitomeref01_size.mono _ _)
      | (with_reducible exact LeO.refl _)
      | (with_reducible exact LeO.none _)
      | (with_reducible refine LeO.ite ?_ ?_)
      | (with_reducible refine LeO.bind ?_ (fun _ => ?_))
      | exact ih0 _ _ _ _ _
      | exact ih1 _ _ _
      | exact ih2 _ _ _ _
      | exact ih3 _ _ _ _ _
      | exact ih4 _ _ _ _ _
      | exact epitomeref01_size.mono _ _
      | exact LeO.none _
      | refine LeO.ite ?_ ?_
      | refine LeO.bind ?_ (fun _ => ?_)
set_option maxHeartbeats 40000000 in
set_option maxRecDepth 100000 in
theorem epitomeref01_first.calls (k : Nat) (a0 : ByteArray) (r1 : Int) (r2 : Int) (w : World) (h : epitomeref01_first.f k a0 = some (r1, r2)) :
  Calls Tryd.prog 90 #[.string a0] w fun e w' => e = .returned (.tuple #[.int .i64 r1, .int .i64 r2]) ∧ Drawn0 w w' := by
 have H : (if (a0.size : Int) = 0 then (some (0, 0)) else (if 0 < (a0.size : Int) then (if (wrap64 (bt a0 0)) ≥ 240 then (epitomeref01_first.j0 k a0 (wrap64 (bt a0 0)) 0 (wrap64 (bt a0 0)) (decide ((wrap64 (bt a0 0)) < 248))) else (epitomeref01_first.j0 k a0 (wrap64 (bt a0 0)) 0 (wrap64 (bt a0 0)) false)) else (none))) = some (r1, r2) := h
 clear h;by_cases c2 : (a0.size : Int) = 0
 ·rw [if_pos c2] at H;have c2b0 : ((a0.size : Int) == 0) = true := beq_iff_eq.mpr c2
  have c2b1 : ((a0.size : Int) != 0) = false := bne_eq_false_iff_eq.mpr c2
  clear c2;simp only [Option.some.injEq, Prod.mk.injEq] at H
  obtain ⟨rfl, rfl⟩ := H;go_enter Tryd.func90, Tryd.ntmps90
  go_wp2
  go_ret2
  exact ⟨zG, zD⟩
 ·rw [if_neg c2] at H;have c2b0 : ((a0.size : Int) == 0) = false := beq_eq_false_iff_ne.mpr c2
  have c2b1 : ((a0.size : Int) != 0) = true := bne_iff_ne.mpr c2
  by_cases c3 : 0 < (a0.size : Int)
  ·rw [if_pos c3] at H;have c3b0 : decide (0 < (a0.size : Int)) = true := decide_eq_true c3
   have c3b1 : decide (0 < a0.size) = true := decide_eq_true (by omega)
   clear c3;have HC5 := Am H;clear H;have p4 : 0 ≤ (0 : Int) := (by omega)
   have q4 : 0 < a0.size := (by have : (0 : Int) < (a0.size : Int) := of_decide_eq_true (by assumption); omega)
   have hx4 : ∀ h : 0 < a0.size, ((a0[0]'h).toNat : Int) = bt a0 0 := bt_at a0 0
   clear p4;have qi4 : (0 < (a0.size : Int)) = True := eq_true (of_decide_eq_true (by assumption))
   replace q4 := eq_true q4;go_enter Tryd.func90, Tryd.ntmps90
   go_upto_region 6 with (fail)
   go_cut [21] (fun v21 wc => ∃ (kq : Nat) (x21_4 : Bool), v21 = .bool x21_4 ∧ Aside0 (epitomeref01_first.j0 kq a0 (wrap64 (bt a0 0)) 0 (wrap64 (bt a0 0)) x21_4 = some (r1, r2)) ∧ Aside0 (kq ≤ k) ∧ Drawn0 w wc)
   case first =>
    have H := HC5.out;clear HC5;by_cases c6 : (wrap64 (bt a0 0)) ≥ 240
    ·rw [if_pos c6] at H;have c6b0 : decide (240 ≤ (wrap64 (bt a0 0))) = true := decide_eq_true c6
     clear c6;(first | rw [c6b0] | (simp only [i64_w, i32_w]; rw [c6b0]) | skip)
     have H' := Am H
     clear H;go_wp2
     go_meet
     case rel => exact ⟨_, (decide ((wrap64 (bt a0 0)) < 248)), zG, H', ⟨by first | omega | exact Nat.le_refl _⟩, zD⟩
    ·rw [if_neg c6] at H;have c6b0 : decide (240 ≤ (wrap64 (bt a0 0))) = false := decide_eq_false c6
     clear c6;(first | rw [c6b0] | (simp only [i64_w, i32_w]; rw [c6b0]) | skip)
     have H' := Am H
     clear H;go_wp2
     go_meet
     case rel => exact ⟨_, (false), zG, H', ⟨by first | omega | exact Nat.le_refl _⟩, zD⟩
   case rest =>
    clear HC5;(try clear c2);(try clear c2b0);(try clear c2b1);(try clear p2);(try clear c3);(try clear c3b0);(try clear c3b1);(try clear p4);(try clear q4);(try clear hx4);(try clear qi4);(try clear c6);(try clear c6b0);(try clear p6);(try clear p4);(try clear q4);obtain ⟨kq, x21_4, rfl, HA, HJ4, ⟨mc4, rfl⟩⟩ := hcut
    cases kq with
    | zero => exact absurd HA.out (by simp [epitomeref01_first.j0])
    | succ kj4 =>
     have H := HA.out;clear HA;simp only [epitomeref01_first.j0] at H
     have HC7 := Am H;clear H;go_upto_if 21 with (fail)
     go_cut [5, 6] (fun v5 v6 wc => ∃ (kq : Nat) (x5_6 : Int) (x6_6 : Int), v5 = .int .i64 x5_6 ∧ v6 = .int .i64 x6_6 ∧ Aside0 (epitomeref01_first.j3 kq a0 x5_6 x6_6 = some (r1, r2)) ∧ Aside0 (kq ≤ kj4) ∧ Drawn0 w wc)
     case first =>
      have H := HC7.out;clear HC7;by_cases c8 : x21_4 = true
      ·subst c8
       have H1 : (epitomeref01_first.j3 kj4 a0 3 (wrap64 ((wrap64 (bt a0 0)) - 240))) = some (r1, r2) := by rw [if_pos rfl] at H; exact H
       clear H;have H := H1
       clear H1;have H' := Am H
       clear H;go_wp2
       go_meet
       case rel => exact ⟨_, (3), (wrap64 ((wrap64 (bt a0 0)) - 240)), zG, zG, H', ⟨by have := HJ4.out; first | omega | exact Nat.le_refl _⟩, zD⟩
      ·replace c8 := Bool.eq_false_iff.mpr c8
       subst c8
       have H1 : (if (wrap64 (bt a0 0)) ≥ 224 then (epitomeref01_first.j1 kj4 a0 (wrap64 (bt a0 0)) 0 (wrap64 (bt a0 0)) (decide ((wrap64 (bt a0 0)) < 240))) else (epitomeref01_first.j1 kj4 a0 (wrap64 (bt a0 0)) 0 (wrap64 (bt a0 0)) false)) = some (r1, r2) := by rw [if_neg (show ¬ (false = true) by decide)] at H; exact H
       clear H;have H := H1
       clear H1;have HC9 := Am H;clear H;go_upto_region 9 with (fail)
       go_cut [29] (fun v29 wc => ∃ (kq : Nat) (x29_8 : Bool), v29 = .bool x29_8 ∧ Aside0 (epitomeref01_first.j1 kq a0 (wrap64 (bt a0 0)) 0 (wrap64 (bt a0 0)) x29_8 = some (r1, r2)) ∧ Aside0 (kq ≤ kj4) ∧ Drawn0 w wc)
       case first =>
        have H := HC9.out;clear HC9;by_cases c10 : (wrap64 (bt a0 0)) ≥ 224
        ·rw [if_pos c10] at H;have c10b0 : decide (224 ≤ (wrap64 (bt a0 0))) = true := decide_eq_true c10
         clear c10;(first | rw [c10b0] | (simp only [i64_w, i32_w]; rw [c10b0]) | skip)
         have H' := Am H
         clear H;go_wp2
         go_meet
         case rel => exact ⟨_, (decide ((wrap64 (bt a0 0)) < 240)), zG, H', ⟨by have := HJ4.out; first | omega | exact Nat.le_refl _⟩, zD⟩
        ·rw [if_neg c10] at H;have c10b0 : decide (224 ≤ (wrap64 (bt a0 0))) = false := decide_eq_false c10
         clear c10;(first | rw [c10b0] | (simp only [i64_w, i32_w]; rw [c10b0]) | skip)
         have H' := Am H
         clear H;go_wp2
         go_meet
         case rel => exact ⟨_, (false), zG, H', ⟨by have := HJ4.out; first | omega | exact Nat.le_refl _⟩, zD⟩
       case rest =>
        clear HC9;(try clear c1);(try clear c2);(try clear c2b0);(try clear c2b1);(try clear p2);(try clear c3);(try clear c3b0);(try clear c3b1);(try clear c4);(try clear p4);(try clear q4);(try clear hx4);(try clear qi4);(try clear c6);(try clear c6b0);(try clear p6);(try clear c8);(try clear c9);(try clear c10);(try clear c10b0);(try clear p2);(try clear p4);(try clear p6);(try clear q4);obtain ⟨kq, x29_8, rfl, HA, HJ8, ⟨mc8, rfl⟩⟩ := hcut
        cases kq with
        | zero => exact absurd HA.out (by simp [epitomeref01_first.j1])
        | succ kj8 =>
         have H := HA.out;clear HA;simp only [epitomeref01_first.j1] at H
         by_cases c11 : x29_8 = true
         ·subst c11
          have H1 : (epitomeref01_first.j3 kj8 a0 2 (wrap64 ((wrap64 (bt a0 0)) - 224))) = some (r1, r2) := by rw [if_pos rfl] at H; exact H
          clear H;have H := H1
          clear H1;have H' := Am H
          clear H;go_wp2
          go_meet
          case rel => exact ⟨_, (2), (wrap64 ((wrap64 (bt a0 0)) - 224)), zG, zG, H', ⟨by have := HJ4.out; have := HJ8.out; first | omega | exact Nat.le_refl _⟩, zD⟩
         ·replace c11 := Bool.eq_false_iff.mpr c11
          subst c11
          have H1 : (if (wrap64 (bt a0 0)) ≥ 192 then (epitomeref01_first.j2 kj8 a0 (wrap64 (bt a0 0)) 0 (wrap64 (bt a0 0)) (decide ((wrap64 (bt a0 0)) < 224))) else (epitomeref01_first.j2 kj8 a0 (wrap64 (bt a0 0)) 0 (wrap64 (bt a0 0)) false)) = some (r1, r2) := by rw [if_neg (show ¬ (false = true) by decide)] at H; exact H
          clear H;have H := H1
          clear H1;have HC12 := Am H;clear H;go_upto_region 12 with (fail)
          go_cut [37] (fun v37 wc => ∃ (kq : Nat) (x37_11 : Bool), v37 = .bool x37_11 ∧ Aside0 (epitomeref01_first.j2 kq a0 (wrap64 (bt a0 0)) 0 (wrap64 (bt a0 0)) x37_11 = some (r1, r2)) ∧ Aside0 (kq ≤ kj8) ∧ Drawn0 w wc)
          case first =>
           have H := HC12.out;clear HC12;by_cases c13 : (wrap64 (bt a0 0)) ≥ 192
           ·rw [if_pos c13] at H;have c13b0 : decide (192 ≤ (wrap64 (bt a0 0))) = true := decide_eq_true c13
            clear c13;(first | rw [c13b0] | (simp only [i64_w, i32_w]; rw [c13b0]) | skip)
            have H' := Am H
            clear H;go_wp2
            go_meet
            case rel => exact ⟨_, (decide ((wrap64 (bt a0 0)) < 224)), zG, H', ⟨by have := HJ4.out; have := HJ8.out; first | omega | exact Nat.le_refl _⟩, zD⟩
           ·rw [if_neg c13] at H;have c13b0 : decide (192 ≤ (wrap64 (bt a0 0))) = false := decide_eq_false c13
            clear c13;(first | rw [c13b0] | (simp only [i64_w, i32_w]; rw [c13b0]) | skip)
            have H' := Am H
            clear H;go_wp2
            go_meet
            case rel => exact ⟨_, (false), zG, H', ⟨by have := HJ4.out; have := HJ8.out; first | omega | exact Nat.le_refl _⟩, zD⟩
          case rest =>
           clear HC12;(try clear c1);(try clear c2);(try clear c2b0);(try clear c2b1);(try clear p2);(try clear c3);(try clear c3b0);(try clear c3b1);(try clear c4);(try clear p4);(try clear q4);(try clear hx4);(try clear qi4);(try clear c6);(try clear c6b0);(try clear p6);(try clear c8);(try clear c9);(try clear c10);(try clear c10b0);(try clear c11);(try clear c13);(try clear c13b0);(try clear p2);(try clear p4);(try clear p6);(try clear q4);obtain ⟨kq, x37_11, rfl, HA, HJ11, ⟨mc11, rfl⟩⟩ := hcut
           cases kq with
           | zero => exact absurd HA.out (by simp [epitomeref01_first.j2])
           | succ kj11 =>
            have H := HA.out;clear HA;simp only [epitomeref01_first.j2] at H
            by_cases c14 : x37_11 = true
            ·subst c14
             have H1 : (epitomeref01_first.j3 kj11 a0 1 (wrap64 ((wrap64 (bt a0 0)) - 192))) = some (r1, r2) := by rw [if_pos rfl] at H; exact H
             clear H;have H := H1
             clear H1;have H' := Am H
             clear H;go_wp2
             go_meet
             case rel => exact ⟨_, (1), (wrap64 ((wrap64 (bt a0 0)) - 192)), zG, zG, H', ⟨by have := HJ4.out; have := HJ8.out; have := HJ11.out; first | omega | exact Nat.le_refl _⟩, zD⟩
            ·replace c14 := Bool.eq_false_iff.mpr c14
             subst c14
             have H1 : (if (wrap64 (bt a0 0)) ≥ 128 then (some (0, 0)) else (epitomeref01_first.j3 kj11 a0 0 (wrap64 (bt a0 0)))) = some (r1, r2) := by rw [if_neg (show ¬ (false = true) by decide)] at H; exact H
             clear H;have H := H1
             clear H1;by_cases c15 : (wrap64 (bt a0 0)) ≥ 128
             ·rw [if_pos c15] at H;have c15b0 : decide (128 ≤ (wrap64 (bt a0 0))) = true := decide_eq_true c15
              clear c15;simp only [Option.some.injEq, Prod.mk.injEq] at H
              obtain ⟨rfl, rfl⟩ := H;go_wp2
              go_ret2
              exact ⟨zG, zD⟩
             ·rw [if_neg c15] at H;have c15b0 : decide (128 ≤ (wrap64 (bt a0 0))) = false := decide_eq_false c15
              clear c15;have H' := Am H
              clear H;go_wp2
              go_meet
              case rel => exact ⟨_, (0), ((wrap64 (bt a0 0))), zG, zG, H', ⟨by have := HJ4.out; have := HJ8.out; have := HJ11.out; first | omega | exact Nat.le_refl _⟩, zD⟩
     case rest =>
      clear HC7;(try clear c1);(try clear c2);(try clear c2b0);(try clear c2b1);(try clear p2);(try clear c3);(try clear c3b0);(try clear c3b1);(try clear c4);(try clear p4);(try clear q4);(try clear hx4);(try clear qi4);(try clear c6);(try clear c6b0);(try clear p6);(try clear c8);(try clear c9);(try clear c10);(try clear c10b0);(try clear c11);(try clear c13);(try clear c13b0);(try clear c14);(try clear c15);(try clear c15b0);(try clear p2);(try clear p4);(try clear p6);(try clear q4);obtain ⟨kq, x5_6, x6_6, rfl, rfl, HA, HJ6, ⟨mc6, rfl⟩⟩ := hcut
      cases kq with
      | zero => exact absurd HA.out (by simp [epitomeref01_first.j3])
      | succ kj6 =>
       have H := HA.out;clear HA;simp only [epitomeref01_first.j3] at H
       by_cases c16 : (a0.size : Int) < (wrap64 (x5_6 + 1))
       ·rw [if_pos c16] at H;have c16b0 : decide ((a0.size : Int) < (wrap64 (x5_6 + 1))) = true := decide_eq_true c16
        clear c16;simp only [Option.some.injEq, Prod.mk.injEq] at H
        obtain ⟨rfl, rfl⟩ := H;go_wp2
        go_ret2
        exact ⟨zG, zD⟩
       ·rw [if_neg c16] at H;have c16b0 : decide ((a0.size : Int) < (wrap64 (x5_6 + 1))) = false := decide_eq_false c16
        clear c16;have H' := Am H
        clear H;go_wp2
        go_loopg [6, 7] kj6 (fun kq v6 v7 w' => ∃ (x6_3 : Int) (x7_3 : Int), v6 = .int .i64 x6_3 ∧ v7 = .int .i64 x7_3 ∧ Aside0 (epitomeref01_first.l0 kq a0 x5_6 x6_3 x7_3 = some (r1, r2)) ∧ Aside0 (kq ≤ kj6) ∧ Drawn0 w w')
        case atStart => exact ⟨(x6_6), (1), zG, zG, H', ⟨Nat.le_refl _⟩, zD⟩
        case round =>
         clear H';(try clear c1);(try clear c2);(try clear c2b0);(try clear c2b1);(try clear p2);(try clear c3);(try clear c3b0);(try clear c3b1);(try clear c4);(try clear p4);(try clear q4);(try clear hx4);(try clear qi4);(try clear c6);(try clear c6b0);(try clear p6);(try clear c8);(try clear c9);(try clear c10);(try clear c10b0);(try clear c11);(try clear c13);(try clear c13b0);(try clear c14);(try clear c15);(try clear c15b0);(try clear c16);(try clear c16b0);(try clear p2);(try clear p4);(try clear p6);(try clear q4);obtain ⟨x6_3, x7_3, rfl, rfl, HA, HK3, ⟨m3, rfl⟩⟩ := hrel
         cases gk with
         | zero => exact absurd HA.out (by simp [epitomeref01_first.l0])
         | succ k3 =>
          have H := HA.out;clear HA;simp only [epitomeref01_first.l0] at H
          by_cases c17 : x7_3 ≤ x5_6
          ·rw [if_pos c17] at H;have c17b0 : decide (x7_3 ≤ x5_6) = true := decide_eq_true c17
           clear c17;by_cases c18 : 0 ≤ x7_3
           ·rw [if_pos c18] at H;have c18b0 : decide (0 ≤ x7_3) = true := decide_eq_true c18
            clear c18;by_cases c19 : x7_3 < (a0.size : Int)
            ·rw [if_pos c19] at H;have c19b0 : decide (x7_3 < (a0.size : Int)) = true := decide_eq_true c19
             clear c19;by_cases c21 : (wrap64 (bt a0 x7_3)) < 128
             ·rw [if_pos c21] at H;have c21b0 : decide ((wrap64 (bt a0 x7_3)) < 128) = true := decide_eq_true c21
              clear c21;simp only [Option.some.injEq, Prod.mk.injEq] at H
              obtain ⟨rfl, rfl⟩ := H;have p20 : 0 ≤ (x7_3 : Int) := of_decide_eq_true (by assumption)
              have q20 : x7_3 < (a0.size : Int) := of_decide_eq_true (by assumption)
              have hx20 := bt_at a0 x7_3
              replace p20 := eq_true p20;replace q20 := eq_true q20;go_wp2
              go_ret2
              exact ⟨zG, zD⟩
             ·rw [if_neg c21] at H;have c21b0 : decide ((wrap64 (bt a0 x7_3)) < 128) = false := decide_eq_false c21
              clear c21;by_cases c22 : (wrap64 (bt a0 x7_3)) > 191
              ·rw [if_pos c22] at H;have c22b0 : decide (191 < (wrap64 (bt a0 x7_3))) = true := decide_eq_true c22
               clear c22;simp only [Option.some.injEq, Prod.mk.injEq] at H
               obtain ⟨rfl, rfl⟩ := H;have p20 : 0 ≤ (x7_3 : Int) := of_decide_eq_true (by assumption)
               have q20 : x7_3 < (a0.size : Int) := of_decide_eq_true (by assumption)
               have hx20 := bt_at a0 x7_3
               replace p20 := eq_true p20;replace q20 := eq_true q20;go_wp2
               go_ret2
               exact ⟨zG, zD⟩
              ·rw [if_neg c22] at H;have c22b0 : decide (191 < (wrap64 (bt a0 x7_3))) = false := decide_eq_false c22
               clear c22;have H' := Am H
               clear H;have p20 : 0 ≤ (x7_3 : Int) := of_decide_eq_true (by assumption)
               have q20 : x7_3 < (a0.size : Int) := of_decide_eq_true (by assumption)
               have hx20 := bt_at a0 x7_3
               replace p20 := eq_true p20;replace q20 := eq_true q20;go_wp2
               go_roundg k3
               case measure => have := HJ4.out; have := HJ6.out; have := HK3.out; omega
               case rel => exact ⟨(wrap64 ((wrap64 ((wrap64 (x6_3 * 64)) + (wrap64 (bt a0 x7_3)))) - 128)), (wrap64 (x7_3 + 1)), zG, zG, H', ⟨by have := HJ4.out; have := HJ6.out; have := HK3.out; omega⟩, zD⟩
            ·rw [if_neg c19] at H;exact absurd H (by simp)
           ·rw [if_neg c18] at H;exact absurd H (by simp)
          ·rw [if_neg c17] at H;have c17b0 : decide (x7_3 ≤ x5_6) = false := decide_eq_false c17
           clear c17;replace H := Option.bind_eq_some_iff.mp H;obtain ⟨t101, A230, H⟩ := H;replace H : (if t101 = (wrap64 (x5_6 + 1)) then (some (x6_3, wrap64 (x5_6 + 1))) else (some (0, 0))) = some (r1, r2) := H
           have A23 := Am A230;clear A230;by_cases c24 : t101 = (wrap64 (x5_6 + 1))
           ·rw [if_pos c24] at H;have c24b0 : (t101 == (wrap64 (x5_6 + 1))) = true := beq_iff_eq.mpr c24
            have c24b1 : (t101 != (wrap64 (x5_6 + 1))) = false := bne_eq_false_iff_eq.mpr c24
            clear c24;simp only [Option.some.injEq, Prod.mk.injEq] at H
            obtain ⟨rfl, rfl⟩ := H;go_wp2_with (first | ((with_reducible refine gate_callee (f := 78) rfl ?_); refine goesL_ (some 68) rfl rfl Tryd.func78 (by kernel_rfl) rfl #[.int .i64 x6_3] rfl zE ?_; (with_reducible refine (epitomeref01_size.calls k3 x6_3 t101 _ A23.out).mono ?_); rintro e w' ⟨rfl, ⟨nd, rfl⟩⟩; refine ⟨_, rfl, ?_⟩))
            go_ret2
            exact ⟨zG, zD⟩
           ·rw [if_neg c24] at H;have c24b0 : (t101 == (wrap64 (x5_6 + 1))) = false := beq_eq_false_iff_ne.mpr c24
            have c24b1 : (t101 != (wrap64 (x5_6 + 1))) = true := bne_iff_ne.mpr c24
            simp only [Option.some.injEq, Prod.mk.injEq] at H
            obtain ⟨rfl, rfl⟩ := H;go_wp2_with (first | ((with_reducible refine gate_callee (f := 78) rfl ?_); refine goesL_ (some 68) rfl rfl Tryd.func78 (by kernel_rfl) rfl #[.int .i64 x6_3] rfl zE ?_; (with_reducible refine (epitomeref01_size.calls k3 x6_3 t101 _ A23.out).mono ?_); rintro e w' ⟨rfl, ⟨nd, rfl⟩⟩; refine ⟨_, rfl, ?_⟩))
            go_ret2
            exact ⟨zG, zD⟩
  ·rw [if_neg c3] at H;exact absurd H (by simp)
end Go.Proofs.YthhgobiaecehbaaDoor.F
end
section
namespace Go.Proofs.YthhgobiaecehbaaDoor.F
open Go.RowKit Go.Proofs.YthhgobiaecehbaaDoorW.PrintWords Go.Proofs.YthhgobiaecehbaaDoorW.PrintLast Go.Proofs.YthhgobiaecehbaaDoorW.PrintMore
attribute [local go_sem] max2_int min2_int max_two min_two max_three min_three max_four min_four cell_setCell_isSome
set_option linter.unusedVariables false
set_option linter.unusedSimpArgs false
open Kd
def epitomeref01_Starts.l0 : Nat → ByteArray → List Int → Int → Option (List Int × Bool)
  | 0, _, _, _ => none
  | k + 1, x0, x4, x5 => if x5 < (x0.size : Int) then (if 0 ≤ x5 then (if x5 ≤ (x0.size : Int) then ((epitomeref01_first.f k (x0.extract (x5 : Int).toNat x0.size)).bind fun bt104 => (if bt104.2 = 0 then (some (([] : List Int), false)) else (if x4.length < 17592186044416 then (epitomeref01_Starts.l0 k x0 (x4 ++ [wrap64 (x5 + bt104.2)]) (wrap64 (x5 + bt104.2))) else (none)))) else (none)) else (none)) else (some (x4, true))
def epitomeref01_Starts.f (k : Nat) (a0 : ByteArray) : Option (List Int × Bool) := epitomeref01_Starts.l0 k a0 (([0] : List Int)) 0
theorem epitomeref01_Starts.mono_l : ∀ k, (∀ y0 y1 y2, LeO (epitomeref01_Starts.l0 k y0 y1 y2) (epitomeref01_Starts.l0 (k + 1) y0 y1 y2))
  | 0 => fun _ _ _ r h => by simp [epitomeref01_Starts.l0] at h
  | k + 1 => by
    have ih0 := epitomeref01_Starts.mono_l k
    · intro y0 y1 y2
      unfold epitomeref01_Starts.l0
      repeat' first
      | (with_reducible exact ih0 _ _ _)
      | (with_reducible exact epitomeref01_first.mono _ _)
      | (with_reducible exact LeO.refl _)
      | (with_reducible exact LeO.none _)
      | (with_reducible refine LeO.ite ?_ ?_)
      | (with_reducible refine LeO.bind ?_ (fun _ => ?_))
      | exact ih0 _ _ _
      | exact epitomeref01_first.mono _ _
      | exact LeO.none _
      | refine LeO.ite ?_ ?_
      | refine LeO.bind ?_ (fun _ => ?_)
theorem epitomeref01_Starts.mono : ∀ a0 k, LeO (epitomeref01_Starts.f k a0) (epitomeref01_Starts.f (k + 1) a0) := by
  intro a0 k
  have ih0 := epitomeref01_Starts.mono_l k
  unfold epitomeref01_Starts.f
  repeat' first
      | (with_reducible exact ih0 _ _ _)
      | (with_reducible exact epitomeref01_first.mono _ _)
      | (with_reducible exact LeO.refl _)
      | (with_reducible exact LeO.none _)
      | (with_reducible refine LeO.ite ?_ ?_)
      | (with_reducible refine LeO.bind ?_ (fun _ => ?_))
      | exact ih0 _ _ _
      | exact epitomeref01_first.mono _ _
      | exact LeO.none _
      | refine LeO.ite ?_ ?_
      | refine LeO.bind ?_ (fun _ => ?_)
set_option maxHeartbeats 40000000 in
set_option maxRecDepth 100000 in
theorem epitomeref01_Starts.calls (k : Nat) (a0 : ByteArray) (r1 : List Int) (r2 : Bool) (w : World) (h : epitomeref01_Starts.f k a0 = some (r1, r2)) :
  Calls Tryd.prog 89 #[.string a0] w fun e w' => ∃ v0_ : Value, e = .returned (.tuple #[v0_, .bool r2]) ∧ Kd.R (Kd.int .i64) 3 w' w.heap.size (fun _ => True) v0_ r1 ∧ Below w.heap.size w w' := by
 have HB := Am (Below.refl w.heap.size w)
 have H : (epitomeref01_Starts.l0 k a0 (([0] : List Int)) 0) = some (r1, r2) := h
 clear h;obtain ⟨y101, hy101⟩ : ∃ y_ : List Int, y_ = (([0] : List Int)) := ⟨_, rfl⟩
 replace H : (epitomeref01_Starts.l0 k a0 y101 0) = some (r1, r2) := by first | (rw [hy101]; with_reducible exact H) | (have H2_ := (Option.bind_some _ _).symm.trans H; rw [hy101]; with_reducible exact H2_) | (have H2_ := (Option.bind_some _ _).symm.trans H; with_reducible exact H2_) | with_reducible exact H | (rw [hy101]; exact H) | exact H
 have Ny101 := Am hy101;clear hy101;have H' := Am H
 clear H;go_enter Tryd.func89, Tryd.ntmps89
 go_wp2_with (first | ((with_reducible refine gate_dst (N := 8) rfl ?_); refine R_lit (Kd.int .i64) _ 3 ?hg (N := 8) ?hd (xs := ([0] : List Int)) (inner := [.int .i64 0]) (ok := fun _ => True) (okp := fun _ => True) ?hr ?hp (fun _ hk => hk) trivial (Below.refl _ _) (Nat.le_refl _) (by simp) ?_; (case hd => rfl); (case hg => rfl); (case hr => first | (go_simp; done) | (go_simp; rfl)); (case hp => exact (Reps.one (show Kd.M (Kd.int .i64) _ _ _ 0 [.int .i64 0] from rfl) (Reps.none _ _))); intro v102 w2 ho3 hb hg_ hnew_; clear hg_ hnew_; (first | rw [← Ny101.out] at ho3 | (simp only [Int.reduceToNat] at ho3; rw [← Ny101.out] at ho3)); have HO103 := Am (R_lower ho3 (below_size (zB HB)));replace HB := Am (below_step (zB HB) hb); clear hb ho3))
 go_loopg [4, 5] k (fun kq v4 v5 w' => ∃ (x4_1 : List Int) (x5_1 : Int), v5 = .int .i64 x5_1 ∧ Aside0 (epitomeref01_Starts.l0 kq a0 x4_1 x5_1 = some (r1, r2)) ∧ Aside0 (kq ≤ k) ∧ Aside0 (Kd.R (Kd.int .i64) 3 w' w.heap.size (fun _ => True) v4 x4_1) ∧ Aside0 (Below w.heap.size w w'))
 case atStart => exact ⟨(y101), (0), zG, H', ⟨Nat.le_refl _⟩, ⟨(zR HO103)⟩, ⟨(zB HB)⟩⟩
 case round =>
  clear H';(try clear p2);obtain ⟨x4_1, x5_1, rfl, HA, HK1, HO_4, HB⟩ := hrel
  cases gk with
  | zero => exact absurd HA.out (by simp [epitomeref01_Starts.l0])
  | succ k1 =>
   have H := HA.out;clear HA;simp only [epitomeref01_Starts.l0] at H
   by_cases c4 : x5_1 < (a0.size : Int)
   ·rw [if_pos c4] at H;have c4b0 : decide (x5_1 < (a0.size : Int)) = true := decide_eq_true c4
    clear c4;by_cases c5 : 0 ≤ x5_1
    ·rw [if_pos c5] at H;have c5b0 := eq_true c5
     have c5b1 : decide (0 ≤ x5_1) = true := decide_eq_true c5
     clear c5;by_cases c6 : x5_1 ≤ (a0.size : Int)
     ·rw [if_pos c6] at H;have c6b0 := eq_true c6
      have c6b1 : decide (x5_1 ≤ (a0.size : Int)) = true := decide_eq_true c6
      clear c6;replace H := Option.bind_eq_some_iff.mp H;obtain ⟨⟨t104, t105⟩, A70, H⟩ := H;replace H : (if t105 = 0 then (some (([] : List Int), false)) else (if x4_1.length < 17592186044416 then (epitomeref01_Starts.l0 k1 a0 (x4_1 ++ [wrap64 (x5_1 + t105)]) (wrap64 (x5_1 + t105))) else (none))) = some (r1, r2) := H
      have A7 := Am A70;clear A70;by_cases c8 : t105 = 0
      ·rw [if_pos c8] at H;have c8b0 : (t105 == 0) = true := beq_iff_eq.mpr c8
       have c8b1 : (t105 != 0) = false := bne_eq_false_iff_eq.mpr c8
       clear c8;simp only [Option.some.injEq, Prod.mk.injEq] at H
       obtain ⟨rfl, rfl⟩ := H;go_wp2_with (first | ((with_reducible refine gate_callee (f := 90) rfl ?_); refine goesL_ (some 17) rfl rfl Tryd.func90 (by kernel_rfl) rfl #[.string (a0.extract (x5_1 : Int).toNat a0.size)] rfl zE ?_; (with_reducible refine (epitomeref01_first.calls k1 (a0.extract (x5_1 : Int).toNat a0.size) t104 t105 _ A7.out).mono ?_); rintro e w' ⟨rfl, ⟨nd, rfl⟩⟩; refine ⟨_, rfl, ?_⟩))
       go_ret2
       exact ⟨_, zF, by first | exact R_nil _ _ _ _ _ | exact Kd.N_nil _ _ _ _ _ | exact Kd.V_nil _ _ _ _ _ | exact Kd.Q_nil _ _ _ _ _ | exact Kd.S_nil _ _ _ _ _, (zB HB)⟩
      ·rw [if_neg c8] at H;have c8b0 : (t105 == 0) = false := beq_eq_false_iff_ne.mpr c8
       have c8b1 : (t105 != 0) = true := bne_iff_ne.mpr c8
       by_cases c9 : x4_1.length < 17592186044416
       ·rw [if_pos c9] at H;have LMc9 := Am c9;clear c9;obtain ⟨y106, hy106⟩ : ∃ y_ : List Int, y_ = (x4_1 ++ [wrap64 (x5_1 + t105)]) := ⟨_, rfl⟩
        replace H : (epitomeref01_Starts.l0 k1 a0 y106 (wrap64 (x5_1 + t105))) = some (r1, r2) := by first | (rw [hy106]; with_reducible exact H) | (have H2_ := (Option.bind_some _ _).symm.trans H; rw [hy106]; with_reducible exact H2_) | (have H2_ := (Option.bind_some _ _).symm.trans H; with_reducible exact H2_) | with_reducible exact H | (rw [hy106]; exact H) | exact H
        have Ny106 := Am hy106;clear hy106;have H' := Am H
        clear H;go_wp2_with (first | ((with_reducible refine gate_callee (f := 90) rfl ?_); refine goesL_ (some 17) rfl rfl Tryd.func90 (by kernel_rfl) rfl #[.string (a0.extract (x5_1 : Int).toNat a0.size)] rfl zE ?_; (with_reducible refine (epitomeref01_first.calls k1 (a0.extract (x5_1 : Int).toNat a0.size) t104 t105 _ A7.out).mono ?_); rintro e w' ⟨rfl, ⟨nd, rfl⟩⟩; refine ⟨_, rfl, ?_⟩) | ((with_reducible refine gate_builtin (b := .append) (xs := #[.tmp 25, .tmp 27]) rfl ?_); at_builtin; refine R_append (Kd.int .i64) (w0 := w) w.heap.size rfl (.tmp 25) (.tmp 27) 105 3 (.int .i64 0) 8 rfl Tryd.underlying105 info3 rfl (by decide) (by omega) u4 x4_1 (wrap64 (x5_1 + t105)) [.int .i64 (wrap64 (x5_1 + t105))] (fun _ => True) (fun _ => False) rfl rfl ?aP (fun _ hk => hk.elim) ?aF ?aO ?aB ?aS ?aL ?_; (case aP => exact rfl); (case aB => exact (zB HB)); (case aF => exact (fun _ _ => trivial)); (case aO => exact (zR HO_4)); (case aS => exact (below_size (zB HB))); (case aL => have := LMc9.out; omega); intro v107 w10 ho hb hg hat; rw [← Ny106.out] at ho; replace HB := Am (hb);have HO108 := Am (ho);clear HO_4; clear ho hb hg hat))
        go_roundg k1
        case measure => have := HK1.out; omega
        case rel => exact ⟨(y106), (wrap64 (x5_1 + t105)), zG, H', ⟨by have := HK1.out; omega⟩, ⟨(zR HO108)⟩, ⟨(zB HB)⟩⟩
       ·rw [if_neg c9] at H;exact absurd H (by simp)
     ·rw [if_neg c6] at H;exact absurd H (by simp)
    ·rw [if_neg c5] at H;exact absurd H (by simp)
   ·rw [if_neg c4] at H;have c4b0 : decide (x5_1 < (a0.size : Int)) = false := decide_eq_false c4
    clear c4;simp only [Option.some.injEq, Prod.mk.injEq] at H
    obtain ⟨rfl, rfl⟩ := H;go_wp2
    go_ret2
    exact ⟨_, zF, (zR HO_4), (zB HB)⟩
end Go.Proofs.YthhgobiaecehbaaDoor.F
end
section
namespace Go.Proofs.YthhgobiaecehbaaDoor.F
open Go.RowKit Go.Proofs.YthhgobiaecehbaaDoorW.PrintWords Go.Proofs.YthhgobiaecehbaaDoorW.PrintLast Go.Proofs.YthhgobiaecehbaaDoorW.PrintMore
attribute [local go_sem] max2_int min2_int max_two min_two max_three min_three max_four min_four cell_setCell_isSome
set_option linter.unusedVariables false
set_option linter.unusedSimpArgs false
open Kd
def epitomeref01_Count.f (k : Nat) (a0 : ByteArray) : Option (Int) := (epitomeref01_Starts.f k a0).bind fun bt101 => (some (wrap64 ((bt101.1.length : Int) - 1)))
theorem epitomeref01_Count.mono : ∀ a0 k, LeO (epitomeref01_Count.f k a0) (epitomeref01_Count.f (k + 1) a0) := by
  intro a0 k
  unfold epitomeref01_Count.f
  repeat' first
      | (with_reducible exact epitomeref01_Starts.mono _ _)
      | (with_reducible exact LeO.refl _)
      | (with_reducible exact LeO.none _)
      | (with_reducible refine LeO.ite ?_ ?_)
      | (with_reducible refine LeO.bind ?_ (fun _ => ?_))
      | exact epitomeref01_Starts.mono _ _
      | exact LeO.none _
      | refine LeO.ite ?_ ?_
      | refine LeO.bind ?_ (fun _ => ?_)
set_option maxHeartbeats 40000000 in
set_option maxRecDepth 100000 in
theorem epitomeref01_Count.calls (k : Nat) (a0 : ByteArray) (r : Int) (w : World) (h : epitomeref01_Count.f k a0 = some r) :
  Calls Tryd.prog 85 #[.string a0] w fun e w' => e = .returned (.int .i64 r) ∧ Below w.heap.size w w' := by
 have HB := Am (Below.refl w.heap.size w)
 have H : ((epitomeref01_Starts.f k a0).bind fun bt101 => (some (wrap64 ((bt101.1.length : Int) - 1)))) = some r := h
 clear h;replace H := Option.bind_eq_some_iff.mp H;obtain ⟨⟨t101, t102⟩, A20, H⟩ := H;replace H : (some (wrap64 ((t101.length : Int) - 1))) = some r := H
 have A2 := Am A20;clear A20;obtain rfl := Option.some.inj H;go_enter Tryd.func85, Tryd.ntmps85
 go_wp2_with (first | ((with_reducible refine gate_callee (f := 89) rfl ?_); refine goesL_ (some 7) rfl rfl Tryd.func89 (by kernel_rfl) rfl #[.string a0] rfl zE ?_; (with_reducible refine (epitomeref01_Starts.calls k a0 t101 t102 _ A2.out).mono ?_); rintro e w3 ⟨v103, rfl, ho0, hb⟩; refine ⟨_, rfl, ?_⟩; have HO104 := Am (R_lower ho0 (below_size (zB HB)));replace HB := Am (below_step (zB HB) hb); (try clear hb); (try clear ho0); obtain ⟨Ao4, co4, eo4⟩ := R_slice HO104.out; subst eo4))
 go_ret
 exact ⟨zF, (zB HB)⟩
end Go.Proofs.YthhgobiaecehbaaDoor.F
end
section
namespace Go.Proofs.YthhgobiaecehbaaDoor.F
open Go.RowKit Go.Proofs.YthhgobiaecehbaaDoorW.PrintWords Go.Proofs.YthhgobiaecehbaaDoorW.PrintLast Go.Proofs.YthhgobiaecehbaaDoorW.PrintMore
attribute [local go_sem] max2_int min2_int max_two min_two max_three min_three max_four min_four cell_setCell_isSome
set_option linter.unusedVariables false
set_option linter.unusedSimpArgs false
open Kd
def epitomeref03_Out.f (k : Nat) (a0_0 : Int) (a0_1 : Int) (a0_2 : ByteArray) : Option (Int) := if a0_0 = 1 then (some a0_1) else (if a0_0 = 2 then ((epitomeref01_Count.f k a0_2).bind fun t102 => (some (mx t102 0))) else (some 0))
theorem epitomeref03_Out.mono : ∀ a0 a1 a2 k, LeO (epitomeref03_Out.f k a0 a1 a2) (epitomeref03_Out.f (k + 1) a0 a1 a2) := by
  intro a0 a1 a2 k
  unfold epitomeref03_Out.f
  repeat' first
      | (with_reducible exact epitomeref01_Count.mono _ _)
      | (with_reducible exact LeO.refl _)
      | (with_reducible exact LeO.none _)
      | (with_reducible refine LeO.ite ?_ ?_)
      | (with_reducible refine LeO.bind ?_ (fun _ => ?_))
      | exact epitomeref01_Count.mono _ _
      | exact LeO.none _
      | refine LeO.ite ?_ ?_
      | refine LeO.bind ?_ (fun _ => ?_)
set_option maxHeartbeats 40000000 in
set_option maxRecDepth 100000 in
theorem epitomeref03_Out.calls (k : Nat) (a0_0 : Int) (a0_1 : Int) (a0_2 : ByteArray) (r : Int) (w : World) (h : epitomeref03_Out.f k a0_0 a0_1 a0_2 = some r) :
  Calls Tryd.prog 76 #[.agg #[.int .i64 a0_0, .int .i64 a0_1, .string a0_2]] w fun e w' => e = .returned (.int .i64 r) ∧ Below w.heap.size w w' := by
 have hu41 := Tryd.underlying41
 have HB := Am (Below.refl w.heap.size w)
 have H : (if a0_0 = 1 then (some a0_1) else (if a0_0 = 2 then ((epitomeref01_Count.f k a0_2).bind fun t102 => (some (mx t102 0))) else (some 0))) = some r := h
 clear h;by_cases c2 : a0_0 = 1
 ·rw [if_pos c2] at H;have c2b0 : (a0_0 == 1) = true := beq_iff_eq.mpr c2
  have c2b1 : (a0_0 != 1) = false := bne_eq_false_iff_eq.mpr c2
  clear c2;obtain rfl := Option.some.inj H;go_enter Tryd.func76, Tryd.ntmps76
  go_wp2_with (first | ((with_reducible refine gate_dst (N := 1) rfl ?_); refine box_event ?hg (N := 1) ?hd (cs := #[.int .i64 a0_0, .int .i64 a0_1, .string a0_2]) (t := 41) ?hr ?_; (case hd => rfl); (case hg => rfl); (case hr => first | (go_simp; done) | (go_simp; rfl)); intro gb101 hg w3 hbox hb; have BK101 := Am (hbox);have GW101 := Am (zO (w := w) HB hg);have GE101 := Am (zO (w := w) HB hg);replace HB := Am (below_step (zB HB) hb); clear hb hbox hg; obtain ⟨hcz4_0, hcz4_1, hcz4_2, hfz4_0, hfz4_1, hfz4_2⟩ := zc3 BK101))
  go_ret
  exact ⟨zF, (zB HB)⟩
 ·rw [if_neg c2] at H;have c2b0 : (a0_0 == 1) = false := beq_eq_false_iff_ne.mpr c2
  have c2b1 : (a0_0 != 1) = true := bne_iff_ne.mpr c2
  by_cases c5 : a0_0 = 2
  ·rw [if_pos c5] at H;have c5b0 : (a0_0 == 2) = true := beq_iff_eq.mpr c5
   have c5b1 : (a0_0 != 2) = false := bne_eq_false_iff_eq.mpr c5
   clear c5;replace H := Option.bind_eq_some_iff.mp H;obtain ⟨t102, A60, H⟩ := H;replace H : (some (mx t102 0)) = some r := H
   have A6 := Am A60;clear A60;obtain ⟨ji7, hji7⟩ : ∃ j_ : Int, (mx t102 0) = j_ := ⟨_, rfl⟩
   replace H : (some ji7) = some r := by first | (rw [hji7] at H; exact H) | (simp only [hji7] at H ⊢; exact H)
   (try rw [hji7] at A6)
   (try (have hji7l : 0 ≤ ji7 := by (rw [← hji7]; unfold mx; (repeat' split) <;> omega)))
   (try (have hji7m : 0 ≤ ji7 := by omega))
   have hji7_ : (if t102 < 0 then 0 else t102) = ji7 := hji7
   obtain rfl := Option.some.inj H;go_enter Tryd.func76, Tryd.ntmps76
   go_wp2_with (first | ((with_reducible refine gate_dst (N := 1) rfl ?_); refine box_event ?hg (N := 1) ?hd (cs := #[.int .i64 a0_0, .int .i64 a0_1, .string a0_2]) (t := 41) ?hr ?_; (case hd => rfl); (case hg => rfl); (case hr => first | (go_simp; done) | (go_simp; rfl)); intro gb101 hg w8 hbox hb; have BK101 := Am (hbox);have GW101 := Am (zO (w := w) HB hg);have GE101 := Am (zO (w := w) HB hg);replace HB := Am (below_step (zB HB) hb); clear hb hbox hg; obtain ⟨hcz9_0, hcz9_1, hcz9_2, hfz9_0, hfz9_1, hfz9_2⟩ := zc3 BK101) | ((with_reducible refine gate_callee (f := 85) rfl ?_); refine goesL_ (some 13) rfl rfl Tryd.func85 (by kernel_rfl) rfl #[.string a0_2] rfl zE ?_; (with_reducible refine (epitomeref01_Count.calls k a0_2 t102 _ A6.out).mono ?_); rintro e w10 ⟨rfl, hb⟩; refine ⟨_, rfl, ?_⟩; replace BK101 := Am (zU BK101 hb);replace HB := Am (below_step (zB HB) hb); (try clear hb)))
   go_ret
   exact ⟨by first | rfl | (simp [errW_none, errW_some] <;> rfl) | (simp only [← hji7]; first | rfl | (simp [errW_none, errW_some] <;> rfl)) | (simp [*, errW_none, errW_some] <;> rfl), (zB HB)⟩
  ·rw [if_neg c5] at H;have c5b0 : (a0_0 == 2) = false := beq_eq_false_iff_ne.mpr c5
   have c5b1 : (a0_0 != 2) = true := bne_iff_ne.mpr c5
   obtain rfl := Option.some.inj H;go_enter Tryd.func76, Tryd.ntmps76
   go_wp2_with (first | ((with_reducible refine gate_dst (N := 1) rfl ?_); refine box_event ?hg (N := 1) ?hd (cs := #[.int .i64 a0_0, .int .i64 a0_1, .string a0_2]) (t := 41) ?hr ?_; (case hd => rfl); (case hg => rfl); (case hr => first | (go_simp; done) | (go_simp; rfl)); intro gb101 hg w11 hbox hb; have BK101 := Am (hbox);have GW101 := Am (zO (w := w) HB hg);have GE101 := Am (zO (w := w) HB hg);replace HB := Am (below_step (zB HB) hb); clear hb hbox hg; obtain ⟨hcz12_0, hcz12_1, hcz12_2, hfz12_0, hfz12_1, hfz12_2⟩ := zc3 BK101))
   go_ret
   exact ⟨zF, (zB HB)⟩
end Go.Proofs.YthhgobiaecehbaaDoor.F
end
