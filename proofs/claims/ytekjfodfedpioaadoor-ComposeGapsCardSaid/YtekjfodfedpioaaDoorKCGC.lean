import Derived.Test.YtekjfodfedpioaaDoorKCGB
import Derived.Below
import Derived.Deep.Draws
import Derived.Deep.AppendLies
import Derived.Maps.AppendAt
import Derived.OwnWalk
import Derived.Laws.BytesArg
import Derived.Laws.MakeOwn
import Derived.Laws.OwnMore
import Derived.Deep.OwnRows
import Derived.Tactics
import Derived.Lib.ConvBytes
import Derived.Laws.Slices
import Derived.WalkKit
import Derived.KernelRfl
import Derived.RowKit3
import Derived.Deep.LoopGhost
import Derived.Deep.QuietTactic
import Derived.BigQuiet
import Derived.WideLaws
import Derived.Deep.DeepCutAuto
import Derived.Deep.CutBlock
import Derived.Deep.RegionHeld3
import Derived.Laws.Rows
import Derived.Lib.AppendStr
import Derived.ArgAppend
import Derived.Laws.IdiomCopy
import Derived.RowKit
import Derived.OrdersHeld
import Derived.Laws.BitsLemmas
import Derived.Laws.StructEq
import Derived.Test.YtekjfodfedpioaaDoorProg
import Derived.Handy
import Derived.Shelf.Unicode.DecodeSlow
import Derived.Ground.NamesProg
import Derived.Shelf.Unicode.ValidAny
import Derived.Laws.RangeString
import Derived.Laws.RangeAny
import Derived.Lib.RuneCount
import Derived.Laws.IdiomStrings
import Derived.Laws.Cover4
import Derived.Great.BuildSlice
import Derived.RangeFuncNested
import Derived.RangeFuncBound
import Derived.RangeFuncCalls
import Derived.RangeFuncLeaves
import Derived.Shelf.Abstract
import Derived.Shelf.RegionOpen
import Derived.OwnWalkIn
import Derived.TacticsInMore
import Derived.LoopNIn
import Derived.LoopIn
section
namespace Go.Proofs.YtekjfodfedpioaaDoor.F
open Go.RowKit Go.Proofs.YtekjfodfedpioaaDoorW.PrintWords Go.Proofs.YtekjfodfedpioaaDoorW.PrintLast Go.Proofs.YtekjfodfedpioaaDoorW.PrintMore
set_option linter.unusedVariables false
set_option linter.unusedSimpArgs false
theorem Rd.setText {W : World} {n₀ g gl gt gt' c cB cB' : Nat} {A B B' : Option Addr} {l : List S55} {t t' : List Int} (h : Rd W n₀ g gl gt A c B cB l t) (h1 : t'.length ≤ cB') (h2 : cB' ≤ 9223372036854775807) (h3 : TxtAt W B' gt' t') :
    Rd (W.setCell ⟨g, 1, none⟩ (.slice B' t'.length cB')) n₀ g gl gt' A c B' cB' l t' :=
  ⟨blk_put h.blk 1 _ rfl, h.lc, h1, h.lm, h2, fun hp => by
    obtain ⟨o, cur, e1, e2, e3⟩ := h.row hp
    exact ⟨o, cur, e1, (Below.heap_setCell W ⟨g, 1, none⟩ _ gl (blk_ne e2 h.blk (by decide))).trans e2, e3⟩, fun hp => by
    obtain ⟨o, cur, e1, e2, e3⟩ := h3 hp
    exact ⟨o, cur, e1, (Below.heap_setCell W ⟨g, 1, none⟩ _ gt' (blk_ne e2 h.blk (by decide))).trans e2, e3⟩, h.hg, h.hl⟩
theorem Rd.drew {W : World} {n₀ g gl gt c cB : Nat} {A B : Option Addr} {l : List S55} {t : List Int} (h : Rd W n₀ g gl gt A c B cB l t) : Rd W.drew n₀ g gl gt A c B cB l t := h.below (below_drew1 (Below.refl _ _))
theorem Rd.far {W : World} {n₀ g gl gt c cB : Nat} {A B : Option Addr} {l : List S55} {t : List Int} (h : Rd W n₀ g gl gt A c B cB l t) (k j : Nat) (v : Value) (h0 : k ≠ g) (h1 : 0 < l.length → k ≠ gl) (h2 : 0 < t.length → k ≠ gt) : Rd (W.setCell ⟨k, j, none⟩ v) n₀ g gl gt A c B cB l t :=
  h.keep (Below.heap_setCell W ⟨k, j, none⟩ v g (fun e => h0 e.symm)) (fun hp => Below.heap_setCell W ⟨k, j, none⟩ v gl (fun e => h1 hp e.symm)) (fun hp => Below.heap_setCell W ⟨k, j, none⟩ v gt (fun e => h2 hp e.symm))
theorem Rd.setN {W : World} {n₀ g gl gt c cB off : Nat} {B : Option Addr} {s : S55} {r : List S55} {t : List Int} (h : Rd W n₀ g gl gt (some ⟨gl, off, none⟩) c B cB (s :: r) t) (z : Int) : Rd (W.setCell ⟨gl, off + 1, none⟩ (.int .i64 z)) n₀ g gl gt (some ⟨gl, off, none⟩) c B cB (⟨s.f0, z, s.f2⟩ :: r) t := by
  obtain ⟨o, cur, e1, e2, e3⟩ := h.row (by simp)
  obtain rfl : off = o := by simpa using e1
  refine ⟨(Below.heap_setCell W ⟨gl, off + 1, none⟩ _ g (blk_ne h.blk e2 (by decide))).trans h.blk, h.lc, h.tc, h.lm, h.tm, fun _ => ?_, fun hp => ?_, h.hg, fun _ => h.hl (by simp)⟩
  · obtain ⟨cur', f2, f3⟩ := row_set1 z e2 e3
    exact ⟨off, cur', rfl, f2, f3⟩
  · obtain ⟨o, cur2, x1, x2, x3⟩ := h.txt hp
    exact ⟨o, cur2, x1, (Below.heap_setCell W ⟨gl, off + 1, none⟩ _ gt (blk_ne x2 e2 (by decide))).trans x2, x3⟩
def SpanAt (W : World) (b : Nat) (x : S55) : Prop := W.heap[b]? = some (.cells #[.int .i64 x.f0, .int .i64 x.f1, .string x.f2] 55 (0, 0))
theorem SpanAt.cells {W : World} {b : Nat} {x : S55} (h : SpanAt W b x) : W.cell? ⟨b, 0, none⟩ = some (.int .i64 x.f0) ∧ W.cell? ⟨b, 1, none⟩ = some (.int .i64 x.f1) ∧ W.cell? ⟨b, 2, none⟩ = some (.string x.f2) ∧ W.frozen? ⟨b, 0, none⟩ = false ∧ W.frozen? ⟨b, 1, none⟩ = false ∧ W.frozen? ⟨b, 2, none⟩ = false :=
  ⟨(blk_cell h 0).trans rfl, (blk_cell h 1).trans rfl, (blk_cell h 2).trans rfl, blk_frozen h 0, blk_frozen h 1, blk_frozen h 2⟩
theorem SpanAt.set {W : World} {b : Nat} {y : S55} (h : SpanAt W b y) (x : S55) : SpanAt (((W.setCell ⟨b, 0, none⟩ (.int .i64 x.f0)).setCell ⟨b, 1, none⟩ (.int .i64 x.f1)).setCell ⟨b, 2, none⟩ (.string x.f2)) b x :=
  blk_put (blk_put (blk_put h 0 _ rfl) 1 _ rfl) 2 _ rfl
theorem SpanAt.far {W : World} {b k j : Nat} {v : Value} {x : S55} (h : SpanAt W b x) (hne : b ≠ k) : SpanAt (W.setCell ⟨k, j, none⟩ v) b x := (Below.heap_setCell W ⟨k, j, none⟩ v b hne).trans h
theorem take_end {w0 w W : World} {n₀ g gl gt gt' c cB b : Nat} {A B : Option Addr} {l' : List S55} {t' : List Int} (hB : Below n₀ w0 W) (hz : w.heap.size ≤ W.heap.size) (ho : ∀ k, k < w.heap.size → k ≠ g → k ≠ gl → W.heap[k]? = w.heap[k]?) (R : Rd W n₀ g gl gt' A c B cB l' t') (ht : 0 < t'.length → gt' = gt ∨ w.heap.size ≤ gt')
    (hw : n₀ ≤ w.heap.size) (hb : w.heap.size ≤ b) (hgl : g < w.heap.size) (hrow : 0 < l'.length → gl < w.heap.size) (hne : 0 < t'.length → gt' ≠ b)
    (x : S55) : TakeP w0 w n₀ g gl gt l' t' (((W.setCell ⟨b, 0, none⟩ (.int .i64 x.f0)).setCell ⟨b, 1, none⟩ (.int .i64 x.f1)).setCell ⟨b, 2, none⟩ (.string x.f2)) := by
  have hk : ∀ k, k ≠ b → (((W.setCell ⟨b, 0, none⟩ (.int .i64 x.f0)).setCell ⟨b, 1, none⟩ (.int .i64 x.f1)).setCell ⟨b, 2, none⟩ (.string x.f2)).heap[k]? = W.heap[k]? := fun k hk =>
    (Below.heap_setCell _ ⟨b, 2, none⟩ _ k hk).trans ((Below.heap_setCell _ ⟨b, 1, none⟩ _ k hk).trans (Below.heap_setCell _ ⟨b, 0, none⟩ _ k hk))
  have hz2 : (((W.setCell ⟨b, 0, none⟩ (.int .i64 x.f0)).setCell ⟨b, 1, none⟩ (.int .i64 x.f1)).setCell ⟨b, 2, none⟩ (.string x.f2)).heap.size = W.heap.size := by simp [World.setCell]
  exact ⟨((hB.setCell (p := ⟨b, 0, none⟩) (by show n₀ ≤ b; omega) _).setCell (p := ⟨b, 1, none⟩) (by show n₀ ≤ b; omega) _).setCell (p := ⟨b, 2, none⟩) (by show n₀ ≤ b; omega) _, by rw [hz2]; exact hz, fun k hk1 hk2 hk3 => (hk k (by omega)).trans (ho k hk1 hk2 hk3), gt', c, cB, A, B, R.keep (hk g (by omega)) (fun hp => hk gl (by have := hrow hp; omega)) (fun hp => hk gt' (hne hp)), ht⟩
theorem TakeP.drew {w0 w W : World} {n₀ g gl gt : Nat} {l' : List S55} {t' : List Int} (h : TakeP w0 w n₀ g gl gt l' t' W) : TakeP w0 w n₀ g gl gt l' t' W.drew := by
  obtain ⟨gt', c, cB, A, B, R, ht⟩ := h.r
  exact ⟨below_drew1 h.b, h.z, h.o, gt', c, cB, A, B, R.drew, ht⟩
theorem RowAt.drew {W : World} {A : Option Addr} {gl : Nat} {l : List S55} (h : RowAt W A gl l) : RowAt W.drew A gl l := fun hp => by
  obtain ⟨o, cur, e1, e2, e3⟩ := h hp
  exact ⟨o, cur, e1, blk_drew e2, e3⟩
theorem Rd.tail {W : World} {n₀ g gl gt c cB : Nat} {A B : Option Addr} {s : S55} {r : List S55} {t : List Int} (h : Rd W n₀ g gl gt A c B cB (s :: r) t) : RowAt (W.setCell ⟨g, 0, none⟩ (.slice (if c = 1 then A else A.map (·.add (1 * 3))) r.length (c - 1))) (if c = 1 then A else A.map (·.add (1 * 3))) gl r := fun hp => by
  obtain ⟨o, cur, e1, e2, e3⟩ := row_tail h.row h.lc hp
  exact ⟨o, cur, e1, (Below.heap_setCell W ⟨g, 0, none⟩ _ gl (blk_ne e2 h.blk (by decide))).trans e2, e3⟩
set_option maxRecDepth 100000 in
set_option maxHeartbeats 40000000 in
theorem reader_take_put (n₀ g gl gt c cB : Nat) (A B : Option Addr) (s : S55) (r : List S55) (t : List Int) (n : Int) (w0 w : World) (hn₀ : n₀ = w0.heap.size) (hB : Below n₀ w0 w)
    (h : Rd w n₀ g gl gt A c B cB (s :: r) t) (hk : s.f0 = 2) (hn0 : 0 ≤ n) (hn1 : n ≤ (t.length : Int)) (x : S55) (l' : List S55) (t' : List Int) (hT : takeR (s :: r) t n = some (x, l', t')) :
    Calls Tryd.prog 42 #[.pointer (some ⟨g, 0, none⟩), .int .i64 n] w fun e w' => e = .returned (.agg #[.int .i64 x.f0, .int .i64 x.f1, .string x.f2]) ∧ TakeP w0 w n₀ g gl gt l' t' w' := by
  subst hn₀
  obtain ⟨m, rfl⟩ : ∃ m : Nat, n = (m : Int) := ⟨n.toNat, by omega⟩
  have hm : m ≤ t.length := by omega
  have H := Aside0.mk h
  have HB := Aside0.mk hB
  have HT : Aside0 ((if sizeR (s :: r) (t.drop m) = 0 then (loadR r).bind fun t2 => some ((⟨2, 0, runesBytes (t.take m)⟩ : S55), r, t2) else some (⟨2, 0, runesBytes (t.take m)⟩, s :: r, t.drop m)) = some (x, l', t')) := ⟨by
    rw [takeR, if_pos hk, if_pos ⟨hn0, hn1⟩, Int.toNat_natCast] at hT
    exact hT⟩
  obtain ⟨off, rfl, h0, h1, h2, hf⟩ := h.head
  have hb1 : Below w.heap.size w (w.alloc (.cells #[.int .i64 0, .int .i64 0, .string ⟨#[]⟩] 55)) := below_alloc (Below.refl _ _) _
  have R1 := h.below hb1
  have c0 := (blk_cell R1.blk 0).trans (show _ = some (Value.slice (some ⟨gl, off, none⟩) (s :: r).length c) from rfl)
  obtain ⟨off', e1, q0, q1, q2, qf⟩ := R1.head
  obtain rfl : off = off' := by simpa using e1
  have d2 : (s.f0 == 2) = true := by simp [hk]
  have hb2 := Aside0.mk (below_alloc hb1 (.cells #[.int .i64 s.f0, .int .i64 0, .string ⟨#[]⟩] 55))
  have B4 : Aside0 (((w.alloc (.cells #[.int .i64 0, .int .i64 0, .string ⟨#[]⟩] 55)).alloc (.cells #[.int .i64 s.f0, .int .i64 0, .string ⟨#[]⟩] 55)).heap[w.heap.size]? = some (.cells #[.int .i64 0, .int .i64 0, .string ⟨#[]⟩] 55 (0, 0))) := ⟨blk_alloc (blk_new w _) _⟩
  have B5 : Aside0 (((w.alloc (.cells #[.int .i64 0, .int .i64 0, .string ⟨#[]⟩] 55)).alloc (.cells #[.int .i64 s.f0, .int .i64 0, .string ⟨#[]⟩] 55)).heap[w.heap.size + 1]? = some (.cells #[.int .i64 s.f0, .int .i64 0, .string ⟨#[]⟩] 55 (0, 0))) := ⟨by
    have := blk_new (w.alloc (.cells #[.int .i64 0, .int .i64 0, .string ⟨#[]⟩] 55)) (.cells #[.int .i64 s.f0, .int .i64 0, .string ⟨#[]⟩] 55)
    rwa [size_alloc] at this⟩
  have HK := Aside0.mk hk
  have HM := Aside0.mk hm
  simp only [List.length_cons] at c0
  have hzz : Aside0 (((w.alloc (.cells #[.int .i64 0, .int .i64 0, .string ⟨#[]⟩] 55)).alloc (.cells #[.int .i64 s.f0, .int .i64 0, .string ⟨#[]⟩] 55)).heap.size = w.heap.size + 1 + 1) := ⟨by rw [size_alloc, size_alloc]⟩
  clear h hB hT h0 h1 h2 hf hb1 R1 e1 hk hm hn0 hn1
  go_enter Tryd.func42, Tryd.ntmps42
  go_wp2
  obtain ⟨W2, hW2⟩ : ∃ W2, (w.alloc (.cells #[.int .i64 0, .int .i64 0, .string ⟨#[]⟩] 55)).alloc (.cells #[.int .i64 s.f0, .int .i64 0, .string ⟨#[]⟩] 55) = W2 := ⟨_, rfl⟩
  rw [hW2] at hb2 B4 B5 hzz ⊢
  clear hW2 c0 q0 q1 q2 qf
  have R2 := Aside0.mk (H.out.below hb2.out)
  have c0 := (blk_cell R2.out.blk 0).trans (show _ = some (Value.slice (some ⟨gl, off, none⟩) (s :: r).length c) from rfl)
  have c1 := (blk_cell R2.out.blk 1).trans (show _ = some (Value.slice B t.length cB) from rfl)
  have f1 := blk_frozen R2.out.blk 1
  have k2 := (blk_cell B5.out 2).trans (show _ = some (Value.string ⟨#[]⟩) from rfl)
  have kf := blk_frozen B5.out 2
  have hcv : (convert 83 9 (.slice B m cB)).run Tryd.prog W2.drew = _ := conv_take (W := W2.drew) (t := t) (gt := gt) (fun hp => by obtain ⟨o, cur, x1, x2, x3⟩ := R2.out.txt hp; exact ⟨o, cur, x1, blk_drew x2, x3⟩) R2.out.tc R2.out.tm HM.out
  obtain ⟨i0, hi0, _, hsz0, _⟩ := info_parts info21
  have hct := cut_to (P := Tryd.prog) 83 21 .i64 Tryd.underlying83 hi0 B t.length cB (m : Int) (by omega) (by have := HM.out; omega) R2.out.tc
  have hcf := cut_from (P := Tryd.prog) 83 21 .i64 Tryd.underlying83 hi0 1 hsz0 B t.length cB (m : Int) (by omega) (by have := HM.out; omega)
  rw [Int.toNat_natCast] at hct hcf
  obtain ⟨B', hB'⟩ : ∃ B', (if cB = m then B else B.map (·.add (m * 1))) = B' := ⟨_, rfl⟩
  rw [hB'] at hcf
  have HBB := Aside0.mk hB'
  obtain ⟨str, hstr⟩ : ∃ str, runesBytes (t.take m) = str := ⟨_, rfl⟩
  rw [hstr] at hcv
  have HSTR := Aside0.mk hstr
  clear hB' hi0 hsz0 hstr
  go_region
  have hgw := Aside0.mk H.out.lt
  have hlen : (t.drop m).length = t.length - m := List.length_drop
  have RS : Aside0 (Rd (((W2.setCell ⟨w.heap.size + 1, 2, none⟩ (.string str)).setCell ⟨g, 1, none⟩ (.slice B' (t.length - m) (cB - m))).drew) w0.heap.size g gl gt (some ⟨gl, off, none⟩) c B' (cB - m) (s :: r) (t.drop m)) := ⟨by
    have h1 := R2.out.far (w.heap.size + 1) 2 (.string str) (by have := hgw.out.1; omega) (fun hp => by have := hgw.out.2.1 hp; omega) (fun hp => by have := hgw.out.2.2 hp; omega)
    have h2 := txt_drop (m := m) h1.txt h1.tc HM.out
    rw [HBB.out] at h2
    have h3 := h1.setText (t' := t.drop m) (cB' := cB - m) (by have := h1.tc; omega) (by have := h1.tm; omega) h2
    rw [hlen] at h3
    exact h3.drew⟩
  have S5 : Aside0 (SpanAt (((W2.setCell ⟨w.heap.size + 1, 2, none⟩ (.string str)).setCell ⟨g, 1, none⟩ (.slice B' (t.length - m) (cB - m))).drew) (w.heap.size + 1) ⟨2, 0, str⟩) := ⟨by
    have := blk_drew ((Below.heap_setCell (W2.setCell ⟨w.heap.size + 1, 2, none⟩ (.string str)) ⟨g, 1, none⟩ (.slice B' (t.length - m) (cB - m)) (w.heap.size + 1) (by have := hgw.out.1; show w.heap.size + 1 ≠ g; omega)).trans (blk_put B5.out 2 (.string str) rfl))
    rw [HK.out] at this
    exact this⟩
  have S4 : Aside0 (SpanAt (((W2.setCell ⟨w.heap.size + 1, 2, none⟩ (.string str)).setCell ⟨g, 1, none⟩ (.slice B' (t.length - m) (cB - m))).drew) w.heap.size ⟨0, 0, ⟨#[]⟩⟩) := ⟨blk_drew ((Below.heap_setCell (W2.setCell ⟨w.heap.size + 1, 2, none⟩ (.string str)) ⟨g, 1, none⟩ (.slice B' (t.length - m) (cB - m)) w.heap.size (by have := hgw.out.1; show w.heap.size ≠ g; omega)).trans ((Below.heap_setCell W2 ⟨w.heap.size + 1, 2, none⟩ (.string str) w.heap.size (by show w.heap.size ≠ w.heap.size + 1; omega)).trans B4.out))⟩
  have HO : Aside0 (∀ k, k < w.heap.size → k ≠ g → (((W2.setCell ⟨w.heap.size + 1, 2, none⟩ (.string str)).setCell ⟨g, 1, none⟩ (.slice B' (t.length - m) (cB - m))).drew).heap[k]? = w.heap[k]?) := ⟨fun k hk hkg => (Below.heap_setCell _ ⟨g, 1, none⟩ _ k hkg).trans ((Below.heap_setCell W2 ⟨w.heap.size + 1, 2, none⟩ _ k (by show k ≠ w.heap.size + 1; omega)).trans (hb2.out.block k hk))⟩
  have HB3 : Aside0 (Below w0.heap.size w0 (((W2.setCell ⟨w.heap.size + 1, 2, none⟩ (.string str)).setCell ⟨g, 1, none⟩ (.slice B' (t.length - m) (cB - m))).drew)) := ⟨by
    have hw : w0.heap.size ≤ w.heap.size := by exact HB.out.size
    exact below_drew1 ((((HB.out).trans (hb2.out.mono hw)).setCell (p := ⟨w.heap.size + 1, 2, none⟩) (by show w0.heap.size ≤ w.heap.size + 1; omega) _).setCell (p := ⟨g, 1, none⟩) H.out.hg _)⟩
  have hz3 : Aside0 ((((W2.setCell ⟨w.heap.size + 1, 2, none⟩ (.string str)).setCell ⟨g, 1, none⟩ (.slice B' (t.length - m) (cB - m))).drew).heap.size = w.heap.size + 1 + 1) := ⟨by have := hzz.out; simpa [World.setCell, World.drew] using this⟩
  obtain ⟨W3, hW3⟩ : ∃ W3, ((W2.setCell ⟨w.heap.size + 1, 2, none⟩ (.string str)).setCell ⟨g, 1, none⟩ (.slice B' (t.length - m) (cB - m))).drew = W3 := ⟨_, rfl⟩
  rw [hW3] at RS S5 S4 HO HB3 hz3 ⊢
  clear hW3 c0 c1 f1 k2 kf hcv hct hcf hlen
  have hgl := hgw.out.1
  have hw := HB.out.size
  obtain ⟨k0, k1, k2, kf0, kf1, kf2⟩ := S5.out.cells
  obtain ⟨j0, j1, j2, jf0, jf1, jf2⟩ := S4.out.cells
  have S4d : Aside0 (SpanAt W3.drew w.heap.size ⟨0, 0, ⟨#[]⟩⟩) := ⟨blk_drew S4.out⟩
  by_cases hz : sizeR (s :: r) (t.drop m) = 0
  · have d3 : (sizeR (s :: r) (t.drop m) == 0) = true := by simp [hz]
    have HTT := HT.out
    rw [if_pos hz] at HTT
    obtain ⟨t2, ht2, he⟩ := Option.bind_eq_some_iff.1 HTT
    obtain ⟨rfl, rfl, rfl⟩ : (⟨2, 0, runesBytes (t.take m)⟩ : S55) = x ∧ r = l' ∧ t2 = t' := by simpa using he
    have e0 := (blk_cell RS.out.blk 0).trans (show _ = some (Value.slice (some ⟨gl, off, none⟩) (s :: r).length c) from rfl)
    have ef := blk_frozen RS.out.blk 0
    obtain ⟨i1, hi1, _, hsz1, _⟩ := info_parts info55
    have hcr := cut_from (P := Tryd.prog) 22 55 .i64 Tryd.underlying22 hi1 3 hsz1 (some ⟨gl, off, none⟩) (s :: r).length c 1 (by omega) (by rw [List.length_cons]; omega)
    rw [show ((1 : Int).toNat) = 1 from rfl, show (s :: r).length - 1 = r.length from rfl] at hcr
    have RT := Aside0.mk RS.out.tail.drew
    have BKT : Aside0 ((W3.setCell ⟨g, 0, none⟩ (.slice (if c = 1 then (some ⟨gl, off, none⟩ : Option Addr) else (some ⟨gl, off, none⟩ : Option Addr).map (·.add (1 * 3))) r.length (c - 1))).drew.heap[g]? = some (.cells #[.slice (if c = 1 then (some ⟨gl, off, none⟩ : Option Addr) else (some ⟨gl, off, none⟩ : Option Addr).map (·.add (1 * 3))) r.length (c - 1), .slice B' (t.drop m).length (cB - m)] 91 (0, 0))) := ⟨blk_drew (blk_put RS.out.blk 0 _ rfl)⟩
    obtain ⟨A2, hA2⟩ : ∃ A2, (if c = 1 then (some ⟨gl, off, none⟩ : Option Addr) else (some ⟨gl, off, none⟩ : Option Addr).map (·.add (1 * 3))) = A2 := ⟨_, rfl⟩
    rw [hA2] at hcr RT BKT
    have HBT := Aside0.mk (below_drew1 (HB3.out.setCell (p := ⟨g, 0, none⟩) H.out.hg (.slice A2 r.length (c - 1))))
    have LCC : Aside0 (r.length ≤ c - 1 ∧ c - 1 ≤ 9223372036854775807) := ⟨by have h1 := RS.out.lc; have h2 := RS.out.lm; rw [List.length_cons] at h1; omega⟩
    have HLR := Aside0.mk ht2
    have HGG := Aside0.mk H.out.hg
    have HLL : Aside0 (0 < r.length → w0.heap.size ≤ gl) := ⟨fun _ => H.out.hl (by simp)⟩
    have hzT : Aside0 ((W3.setCell ⟨g, 0, none⟩ (.slice A2 r.length (c - 1))).drew.heap.size = w.heap.size + 1 + 1) := ⟨by have := hz3.out; simpa [World.setCell, World.drew] using this⟩
    have S5T : Aside0 (SpanAt (W3.setCell ⟨g, 0, none⟩ (.slice A2 r.length (c - 1))).drew (w.heap.size + 1) ⟨2, 0, str⟩) := ⟨blk_drew (S5.out.far (by omega))⟩
    have S4T : Aside0 (SpanAt (W3.setCell ⟨g, 0, none⟩ (.slice A2 r.length (c - 1))).drew w.heap.size ⟨0, 0, ⟨#[]⟩⟩) := ⟨blk_drew (S4.out.far (by omega))⟩
    have HOT : Aside0 (∀ k, k < w.heap.size → k ≠ g → (W3.setCell ⟨g, 0, none⟩ (.slice A2 r.length (c - 1))).drew.heap[k]? = w.heap[k]?) := ⟨fun k hk hkg => (Below.heap_setCell W3 ⟨g, 0, none⟩ _ k hkg).trans (HO.out k hk hkg)⟩
    rw [List.length_cons] at hcr e0
    clear HTT hz hA2 he hi1 hsz1 ht2
    go_wp2_with (first | (go_at_call 43; (with_reducible refine (reader_size.calls w0.heap.size g gl gt c _ _ _ (s :: r) (t.drop m) _ RS.out (Nat.succ_pos _)).mono ?_); rintro e W4 ⟨rfl, rfl⟩) | (go_at_call 68; (with_reducible refine (reader_load.calls w0.heap.size g gl (c - 1) A2 _ r t2 w0 _ rfl HBT.out BKT.out LCC.out.1 LCC.out.2 RT.out HGG.out HLL.out HLR.out).mono ?_); rintro e W5 ⟨rfl, gt', cB5, B5', R5, hB5, hO5, hgt5⟩; have S5U : Aside0 (SpanAt W5 (w.heap.size + 1) ⟨2, 0, str⟩) := ⟨(hO5 _ (by have := hzT.out; omega) (by omega)).trans S5T.out⟩; have S4U : Aside0 (SpanAt W5 w.heap.size ⟨0, 0, ⟨#[]⟩⟩) := ⟨(hO5 _ (by have := hzT.out; omega) (by omega)).trans S4T.out⟩; obtain ⟨u0, u1, u2, uf0, uf1, uf2⟩ := S5U.out.cells; obtain ⟨v0, v1, v2, vf0, vf1, vf2⟩ := S4U.out.cells; have RR5 := Aside0.mk R5; have HB5 := Aside0.mk hB5; have HO5 := Aside0.mk hO5; have HG5 := Aside0.mk hgt5; clear R5 hB5 hO5 hgt5))
    have SF := (SpanAt.set S4U.out (⟨2, 0, str⟩ : S55))
    obtain ⟨m0, m1, m2, _, _, _⟩ := SF.cells
    have FIN := take_end (w := w) (gt := gt) HB5.out (by have := hzT.out; have := RR5.out.lt; have := HB5.out; have h9 := blk_lt S4U.out; omega) (fun k hk hk2 _ => (HO5.out k (by have := hzT.out; omega) hk2).trans (HOT.out k hk hk2)) RR5.out (fun hp => .inr (by have := HG5.out hp; have := hzT.out; omega)) hw (Nat.le_refl _) hgl (fun hp => hgw.out.2.1 (by simp)) (fun hp => by have := HG5.out hp; have := hzT.out; omega) (⟨2, 0, str⟩ : S55)
    exact bodyPost_ret (v := .agg #[.int .i64 2, .int .i64 0, .string str]) (by simp [results, Tryd.results42, Tryd.f42, go_sem, m0, m1, m2]) rfl ⟨by rw [HSTR.out], FIN⟩
  · have d3 : (sizeR (s :: r) (t.drop m) == 0) = false := by simp [hz]
    have HTT := HT.out
    rw [if_neg hz] at HTT
    obtain ⟨rfl, rfl, rfl⟩ : (⟨2, 0, runesBytes (t.take m)⟩ : S55) = x ∧ s :: r = l' ∧ t.drop m = t' := by simpa using HTT
    have FIN := Aside0.mk (take_end (w := w) HB3.out (by show w.heap.size ≤ W3.heap.size; have := hz3.out; omega) (fun k hk hk2 _ => HO.out k hk hk2) RS.out (fun _ => .inl rfl) (by omega) (Nat.le_refl _) hgl (fun hp => hgw.out.2.1 (by simp)) (fun hp => by have := hgw.out.2.2 (by rw [List.length_drop] at hp; omega); omega) (⟨2, 0, str⟩ : S55))
    clear HTT hz
    go_wp2_with (go_at_call 43; (with_reducible refine (reader_size.calls w0.heap.size g gl gt c _ _ _ (s :: r) (t.drop m) _ RS.out (Nat.succ_pos _)).mono ?_); rintro e W4 ⟨rfl, rfl⟩)
    have SF := (SpanAt.set S4.out (⟨2, 0, str⟩ : S55))
    obtain ⟨m0, m1, m2, _, _, _⟩ := SF.cells
    exact bodyPost_ret (v := .agg #[.int .i64 2, .int .i64 0, .string str]) (by simp [results, Tryd.results42, Tryd.f42, go_sem, m0, m1, m2]) rfl ⟨by rw [HSTR.out], FIN.out.drew⟩
set_option maxRecDepth 100000 in
set_option maxHeartbeats 40000000 in
theorem reader_take_cut (n₀ g gl gt c cB : Nat) (A B : Option Addr) (s : S55) (r : List S55) (t : List Int) (n : Int) (w0 w : World) (hn₀ : n₀ = w0.heap.size) (hB : Below n₀ w0 w)
    (h : Rd w n₀ g gl gt A c B cB (s :: r) t) (hk : ¬ s.f0 = 2) (x : S55) (l' : List S55) (t' : List Int) (hT : takeR (s :: r) t n = some (x, l', t')) :
    Calls Tryd.prog 42 #[.pointer (some ⟨g, 0, none⟩), .int .i64 n] w fun e w' => e = .returned (.agg #[.int .i64 x.f0, .int .i64 x.f1, .string x.f2]) ∧ TakeP w0 w n₀ g gl gt l' t' w' := by
  subst hn₀
  have H := Aside0.mk h
  have HB := Aside0.mk hB
  have HT : Aside0 ((if sizeR (⟨s.f0, wrap64 (s.f1 - n), s.f2⟩ :: r) t = 0 then (loadR r).bind fun t2 => some ((⟨s.f0, n, ⟨#[]⟩⟩ : S55), r, t2) else some (⟨s.f0, n, ⟨#[]⟩⟩, ⟨s.f0, wrap64 (s.f1 - n), s.f2⟩ :: r, t)) = some (x, l', t')) := ⟨by
    rw [takeR, if_neg hk] at hT
    exact hT⟩
  obtain ⟨off, rfl, h0, h1, h2, hf⟩ := h.head
  have hb1 : Below w.heap.size w (w.alloc (.cells #[.int .i64 0, .int .i64 0, .string ⟨#[]⟩] 55)) := below_alloc (Below.refl _ _) _
  have R1 := h.below hb1
  have c0 := (blk_cell R1.blk 0).trans (show _ = some (Value.slice (some ⟨gl, off, none⟩) (s :: r).length c) from rfl)
  obtain ⟨off', e1, q0, q1, q2, qf⟩ := R1.head
  obtain rfl : off = off' := by simpa using e1
  have d2 : (s.f0 == 2) = false := by simp [hk]
  have hb2 := Aside0.mk (below_alloc hb1 (.cells #[.int .i64 s.f0, .int .i64 n, .string ⟨#[]⟩] 55))
  have B4 : Aside0 (((w.alloc (.cells #[.int .i64 0, .int .i64 0, .string ⟨#[]⟩] 55)).alloc (.cells #[.int .i64 s.f0, .int .i64 n, .string ⟨#[]⟩] 55)).heap[w.heap.size]? = some (.cells #[.int .i64 0, .int .i64 0, .string ⟨#[]⟩] 55 (0, 0))) := ⟨blk_alloc (blk_new w _) _⟩
  have B5 : Aside0 (((w.alloc (.cells #[.int .i64 0, .int .i64 0, .string ⟨#[]⟩] 55)).alloc (.cells #[.int .i64 s.f0, .int .i64 n, .string ⟨#[]⟩] 55)).heap[w.heap.size + 1]? = some (.cells #[.int .i64 s.f0, .int .i64 n, .string ⟨#[]⟩] 55 (0, 0))) := ⟨by
    have := blk_new (w.alloc (.cells #[.int .i64 0, .int .i64 0, .string ⟨#[]⟩] 55)) (.cells #[.int .i64 s.f0, .int .i64 n, .string ⟨#[]⟩] 55)
    rwa [size_alloc] at this⟩
  simp only [List.length_cons] at c0
  have hzz : Aside0 (((w.alloc (.cells #[.int .i64 0, .int .i64 0, .string ⟨#[]⟩] 55)).alloc (.cells #[.int .i64 s.f0, .int .i64 n, .string ⟨#[]⟩] 55)).heap.size = w.heap.size + 1 + 1) := ⟨by rw [size_alloc, size_alloc]⟩
  clear h hB hT h0 h1 h2 hf hb1 R1 e1 hk
  have R2 := Aside0.mk (H.out.below hb2.out)
  have hgw := Aside0.mk H.out.lt
  have c3 := (blk_cell R2.out.blk 0).trans (show _ = some (Value.slice (some ⟨gl, off, none⟩) (s :: r).length c) from rfl)
  obtain ⟨off', e1, p0, p1, p2, pf⟩ := R2.out.head
  obtain rfl : off = off' := by simpa using e1
  rw [List.length_cons] at c3
  have RS := Aside0.mk (R2.out.setN (wrap64 (s.f1 - n)))
  have S5 : Aside0 (SpanAt (((w.alloc (.cells #[.int .i64 0, .int .i64 0, .string ⟨#[]⟩] 55)).alloc (.cells #[.int .i64 s.f0, .int .i64 n, .string ⟨#[]⟩] 55)).setCell ⟨gl, off + 1, none⟩ (.int .i64 (wrap64 (s.f1 - n)))) (w.heap.size + 1) ⟨s.f0, n, ⟨#[]⟩⟩) := ⟨(Below.heap_setCell _ ⟨gl, off + 1, none⟩ _ (w.heap.size + 1) (by have := hgw.out.2.1 (by simp); show w.heap.size + 1 ≠ gl; omega)).trans B5.out⟩
  have S4 : Aside0 (SpanAt (((w.alloc (.cells #[.int .i64 0, .int .i64 0, .string ⟨#[]⟩] 55)).alloc (.cells #[.int .i64 s.f0, .int .i64 n, .string ⟨#[]⟩] 55)).setCell ⟨gl, off + 1, none⟩ (.int .i64 (wrap64 (s.f1 - n)))) w.heap.size ⟨0, 0, ⟨#[]⟩⟩) := ⟨(Below.heap_setCell _ ⟨gl, off + 1, none⟩ _ w.heap.size (by have := hgw.out.2.1 (by simp); show w.heap.size ≠ gl; omega)).trans B4.out⟩
  have HO : Aside0 (∀ k, k < w.heap.size → k ≠ g → k ≠ gl → (((w.alloc (.cells #[.int .i64 0, .int .i64 0, .string ⟨#[]⟩] 55)).alloc (.cells #[.int .i64 s.f0, .int .i64 n, .string ⟨#[]⟩] 55)).setCell ⟨gl, off + 1, none⟩ (.int .i64 (wrap64 (s.f1 - n)))).heap[k]? = w.heap[k]?) := ⟨fun k hk _ hkl => (Below.heap_setCell _ ⟨gl, off + 1, none⟩ _ k hkl).trans (hb2.out.block k hk)⟩
  have HB3 : Aside0 (Below w0.heap.size w0 (((w.alloc (.cells #[.int .i64 0, .int .i64 0, .string ⟨#[]⟩] 55)).alloc (.cells #[.int .i64 s.f0, .int .i64 n, .string ⟨#[]⟩] 55)).setCell ⟨gl, off + 1, none⟩ (.int .i64 (wrap64 (s.f1 - n))))) := ⟨by
    have hw : w0.heap.size ≤ w.heap.size := HB.out.size
    exact ((HB.out).trans (hb2.out.mono hw)).setCell (p := ⟨gl, off + 1, none⟩) (H.out.hl (by simp)) _⟩
  have hz3 : Aside0 ((((w.alloc (.cells #[.int .i64 0, .int .i64 0, .string ⟨#[]⟩] 55)).alloc (.cells #[.int .i64 s.f0, .int .i64 n, .string ⟨#[]⟩] 55)).setCell ⟨gl, off + 1, none⟩ (.int .i64 (wrap64 (s.f1 - n)))).heap.size = w.heap.size + 1 + 1) := ⟨by have := hzz.out; simp [World.setCell]⟩
  clear e1
  go_enter Tryd.func42, Tryd.ntmps42
  go_wp2_with (go_at_call 43; fail)
  obtain ⟨W3, hW3⟩ : ∃ W3, ((w.alloc (.cells #[.int .i64 0, .int .i64 0, .string ⟨#[]⟩] 55)).alloc (.cells #[.int .i64 s.f0, .int .i64 n, .string ⟨#[]⟩] 55)).setCell ⟨gl, off + 1, none⟩ (.int .i64 (wrap64 (s.f1 - n))) = W3 := ⟨_, rfl⟩
  rw [hW3] at RS S5 S4 HO HB3 hz3 ⊢
  clear hW3 c0 c3 p0 p1 p2 pf q0 q1 q2 qf
  have hgl := hgw.out.1
  have hw := HB.out.size
  obtain ⟨k0, k1, k2, kf0, kf1, kf2⟩ := S5.out.cells
  obtain ⟨j0, j1, j2, jf0, jf1, jf2⟩ := S4.out.cells
  have S4d : Aside0 (SpanAt W3.drew w.heap.size ⟨0, 0, ⟨#[]⟩⟩) := ⟨blk_drew S4.out⟩
  by_cases hz : sizeR (⟨s.f0, wrap64 (s.f1 - n), s.f2⟩ :: r) t = 0
  · have d3 : (sizeR (⟨s.f0, wrap64 (s.f1 - n), s.f2⟩ :: r) t == 0) = true := by simp [hz]
    have HTT := HT.out
    rw [if_pos hz] at HTT
    obtain ⟨t2, ht2, he⟩ := Option.bind_eq_some_iff.1 HTT
    obtain ⟨rfl, rfl, rfl⟩ : (⟨s.f0, n, ⟨#[]⟩⟩ : S55) = x ∧ r = l' ∧ t2 = t' := by simpa using he
    have e0 := (blk_cell RS.out.blk 0).trans (show _ = some (Value.slice (some ⟨gl, off, none⟩) (r.length + 1) c) from rfl)
    have ef := blk_frozen RS.out.blk 0
    obtain ⟨i1, hi1, _, hsz1, _⟩ := info_parts info55
    have hcr := cut_from (P := Tryd.prog) 22 55 .i64 Tryd.underlying22 hi1 3 hsz1 (some ⟨gl, off, none⟩) (r.length + 1) c 1 (by omega) (by omega)
    rw [show ((1 : Int).toNat) = 1 from rfl, show (r.length + 1) - 1 = r.length from rfl] at hcr
    have RT := Aside0.mk RS.out.tail.drew
    have BKT : Aside0 ((W3.setCell ⟨g, 0, none⟩ (.slice (if c = 1 then (some ⟨gl, off, none⟩ : Option Addr) else (some ⟨gl, off, none⟩ : Option Addr).map (·.add (1 * 3))) r.length (c - 1))).drew.heap[g]? = some (.cells #[.slice (if c = 1 then (some ⟨gl, off, none⟩ : Option Addr) else (some ⟨gl, off, none⟩ : Option Addr).map (·.add (1 * 3))) r.length (c - 1), .slice B t.length cB] 91 (0, 0))) := ⟨blk_drew (blk_put RS.out.blk 0 _ rfl)⟩
    obtain ⟨A2, hA2⟩ : ∃ A2, (if c = 1 then (some ⟨gl, off, none⟩ : Option Addr) else (some ⟨gl, off, none⟩ : Option Addr).map (·.add (1 * 3))) = A2 := ⟨_, rfl⟩
    rw [hA2] at hcr RT BKT
    have HBT := Aside0.mk (below_drew1 (HB3.out.setCell (p := ⟨g, 0, none⟩) H.out.hg (.slice A2 r.length (c - 1))))
    have LCC : Aside0 (r.length ≤ c - 1 ∧ c - 1 ≤ 9223372036854775807) := ⟨by have h1 := RS.out.lc; have h2 := RS.out.lm; rw [List.length_cons] at h1; omega⟩
    have HLR := Aside0.mk ht2
    have HGG := Aside0.mk H.out.hg
    have HLL : Aside0 (0 < r.length → w0.heap.size ≤ gl) := ⟨fun _ => H.out.hl (by simp)⟩
    have hzT : Aside0 ((W3.setCell ⟨g, 0, none⟩ (.slice A2 r.length (c - 1))).drew.heap.size = w.heap.size + 1 + 1) := ⟨by have := hz3.out; simpa [World.setCell, World.drew] using this⟩
    have S5T : Aside0 (SpanAt (W3.setCell ⟨g, 0, none⟩ (.slice A2 r.length (c - 1))).drew (w.heap.size + 1) ⟨s.f0, n, ⟨#[]⟩⟩) := ⟨blk_drew (S5.out.far (by omega))⟩
    have S4T : Aside0 (SpanAt (W3.setCell ⟨g, 0, none⟩ (.slice A2 r.length (c - 1))).drew w.heap.size ⟨0, 0, ⟨#[]⟩⟩) := ⟨blk_drew (S4.out.far (by omega))⟩
    have HOT : Aside0 (∀ k, k < w.heap.size → k ≠ g → k ≠ gl → (W3.setCell ⟨g, 0, none⟩ (.slice A2 r.length (c - 1))).drew.heap[k]? = w.heap[k]?) := ⟨fun k hk hkg hkl => (Below.heap_setCell W3 ⟨g, 0, none⟩ _ k hkg).trans (HO.out k hk hkg hkl)⟩
    clear HTT hz hA2 he hi1 hsz1 ht2
    go_wp2_with (first | (go_at_call 43; (with_reducible refine (reader_size.calls w0.heap.size g gl gt c _ _ _ (⟨s.f0, wrap64 (s.f1 - n), s.f2⟩ :: r) t _ RS.out (Nat.succ_pos _)).mono ?_); rintro e W4 ⟨rfl, rfl⟩) | (go_at_call 68; (with_reducible refine (reader_load.calls w0.heap.size g gl (c - 1) A2 _ r t2 w0 _ rfl HBT.out BKT.out LCC.out.1 LCC.out.2 RT.out HGG.out HLL.out HLR.out).mono ?_); rintro e W5 ⟨rfl, gt', cB5, B5', R5, hB5, hO5, hgt5⟩; have S5U : Aside0 (SpanAt W5 (w.heap.size + 1) ⟨s.f0, n, ⟨#[]⟩⟩) := ⟨(hO5 _ (by have := hzT.out; omega) (by omega)).trans S5T.out⟩; have S4U : Aside0 (SpanAt W5 w.heap.size ⟨0, 0, ⟨#[]⟩⟩) := ⟨(hO5 _ (by have := hzT.out; omega) (by omega)).trans S4T.out⟩; obtain ⟨u0, u1, u2, uf0, uf1, uf2⟩ := S5U.out.cells; obtain ⟨v0, v1, v2, vf0, vf1, vf2⟩ := S4U.out.cells; have RR5 := Aside0.mk R5; have HB5 := Aside0.mk hB5; have HO5 := Aside0.mk hO5; have HG5 := Aside0.mk hgt5; clear R5 hB5 hO5 hgt5))
    have SF := (SpanAt.set S4U.out (⟨s.f0, n, ⟨#[]⟩⟩ : S55))
    obtain ⟨m0, m1, m2, _, _, _⟩ := SF.cells
    have FIN := take_end (w := w) (gt := gt) HB5.out (by have := hzT.out; have := RR5.out.lt; have := HB5.out; have h9 := blk_lt S4U.out; omega) (fun k hk hk2 hk3 => (HO5.out k (by have := hzT.out; omega) hk2).trans (HOT.out k hk hk2 hk3)) RR5.out (fun hp => .inr (by have := HG5.out hp; have := hzT.out; omega)) hw (Nat.le_refl _) hgl (fun hp => hgw.out.2.1 (by simp)) (fun hp => by have := HG5.out hp; have := hzT.out; omega) (⟨s.f0, n, ⟨#[]⟩⟩ : S55)
    exact bodyPost_ret (v := .agg #[.int .i64 s.f0, .int .i64 n, .string ⟨#[]⟩]) (by simp [results, Tryd.results42, Tryd.f42, go_sem, m0, m1, m2]) rfl ⟨rfl, FIN⟩
  · have d3 : (sizeR (⟨s.f0, wrap64 (s.f1 - n), s.f2⟩ :: r) t == 0) = false := by simp [hz]
    have HTT := HT.out
    rw [if_neg hz] at HTT
    obtain ⟨rfl, rfl, rfl⟩ : (⟨s.f0, n, ⟨#[]⟩⟩ : S55) = x ∧ ⟨s.f0, wrap64 (s.f1 - n), s.f2⟩ :: r = l' ∧ t = t' := by simpa using HTT
    have FIN := Aside0.mk (take_end (w := w) HB3.out (by show w.heap.size ≤ W3.heap.size; have := hz3.out; omega) (HO.out) RS.out (fun _ => .inl rfl) (by omega) (Nat.le_refl _) hgl (fun hp => hgw.out.2.1 (by simp)) (fun hp => by have := hgw.out.2.2 hp; omega) (⟨s.f0, n, ⟨#[]⟩⟩ : S55))
    clear HTT hz
    go_wp2_with (go_at_call 43; (with_reducible refine (reader_size.calls w0.heap.size g gl gt c _ _ _ (⟨s.f0, wrap64 (s.f1 - n), s.f2⟩ :: r) t _ RS.out (Nat.succ_pos _)).mono ?_); rintro e W4 ⟨rfl, rfl⟩)
    have SF := (SpanAt.set S4.out (⟨s.f0, n, ⟨#[]⟩⟩ : S55))
    obtain ⟨m0, m1, m2, _, _, _⟩ := SF.cells
    exact bodyPost_ret (v := .agg #[.int .i64 s.f0, .int .i64 n, .string ⟨#[]⟩]) (by simp [results, Tryd.results42, Tryd.f42, go_sem, m0, m1, m2]) rfl ⟨rfl, FIN.out.drew⟩
theorem reader_take.calls (n₀ g gl gt c cB : Nat) (A B : Option Addr) (l : List S55) (t : List Int) (n : Int) (w0 w : World) (hn₀ : n₀ = w0.heap.size) (hB : Below n₀ w0 w)
  (h : Rd w n₀ g gl gt A c B cB l t) (x : S55) (l' : List S55) (t' : List Int) (hT : takeR l t n = some (x, l', t')) :
  Calls Tryd.prog 42 #[.pointer (some ⟨g, 0, none⟩), .int .i64 n] w fun e w' => e = .returned (.agg #[.int .i64 x.f0, .int .i64 x.f1, .string x.f2]) ∧ TakeP w0 w n₀ g gl gt l' t' w' := by
 cases l with
 | nil => cases hT
 | cons s r =>
  by_cases hk : s.f0 = 2
  ·by_cases hn : 0 ≤ n ∧ n ≤ (t.length : Int)
   ·exact reader_take_put n₀ g gl gt c cB A B s r t n w0 w hn₀ hB h hk hn.1 hn.2 x l' t' hT
   ·rw [takeR, if_pos hk, if_neg hn] at hT
    cases hT
  ·exact reader_take_cut n₀ g gl gt c cB A B s r t n w0 w hn₀ hB h hk x l' t' hT
end Go.Proofs.YtekjfodfedpioaaDoor.F
end
section
namespace Go.Proofs.YtekjfodfedpioaaDoor.F
open Go.RowKit Go.Proofs.YtekjfodfedpioaaDoorW.PrintWords Go.Proofs.YtekjfodfedpioaaDoorW.PrintLast Go.Proofs.YtekjfodfedpioaaDoorW.PrintMore
set_option linter.unusedVariables false
set_option linter.unusedSimpArgs false
def compose_Of.f (k : Nat) (l0 : List S55) (l1 : List S55) : Option (List S55 × Int) :=
  (op_May.f k l0).bind fun e0 => if e0 = 0 then (op_May.f k l1).bind fun e1 => if e1 = 0 then (op_Out.f k l0).bind fun n => (op_In.f k l1).bind fun m => if n = m then
    (newR k l0).bind fun x => (newR k l1).bind fun y => (composeL k x.1 x.2 y.1 y.2 []).bind fun out => (normal_Of.f k out).bind fun r => some (r, 0)
  else some ([], 5) else some ([], e1) else some ([], e0)
theorem compose_Of.mono (l0 l1 : List S55) (k : Nat) : LeO (compose_Of.f k l0 l1) (compose_Of.f (k + 1) l0 l1) := by
  unfold compose_Of.f
  refine LeO.bind (op_May.mono _ _) (fun e0 => ?_)
  split
  · refine LeO.bind (op_May.mono _ _) (fun e1 => ?_)
    split
    · refine LeO.bind (op_Out.mono _ _) (fun n => LeO.bind (op_In.mono _ _) (fun m => ?_))
      split
      · exact LeO.bind (newR.mono _ _) (fun x => LeO.bind (newR.mono _ _) (fun y => LeO.bind (composeL.mono _ _ _ _ _ _) (fun out => LeO.bind (normal_Of.mono _ _) (fun r => LeO.refl _))))
      · exact LeO.refl _
    · exact LeO.refl _
  · exact LeO.refl _
theorem fill_two (A0 A1 : Option Addr) (n0 c0 n1 c1 : Nat) (z : Nat) (hz : z = 1) : Instr.fill (fun i => some (i * z, z)) ((Array.range (2 * z)).map ((Value.slice none 0 0).cells[· % (Value.slice none 0 0).cells.size]!)) [(0, .slice A0 n0 c0), (1, .slice A1 n1 c1)] = some #[.slice A0 n0 c0, .slice A1 n1 c1] := by
  subst hz
  simp [Instr.fill, Value.cells]
  rw [show Array.range 2 = #[0, 1] from rfl]
  simp
theorem info_rows : ∃ ie, Tryd.prog.info? 22 = some ie ∧ ie.size = 1 ∧ ie.zero = some (.slice none 0 0) := by
  have h1 : (Tryd.prog.info? 22).map (·.size) = some 1 := by kernel_rfl
  have h2 : (Tryd.prog.info? 22).bind (·.zero) = some (.slice none 0 0) := by kernel_rfl
  cases hie : Tryd.prog.info? 22 with
  | none => rw [hie] at h1; cases h1
  | some ie =>
    rw [hie] at h1 h2
    exact ⟨ie, rfl, by simpa using h1, h2⟩
def MayI (k : Nat) (l0 l1 : List S55) (kq : Nat) (v : Value) : Prop := (v = .int .i64 0 ∧ kq = 2) ∨ (v = .int .i64 1 ∧ kq = 1 ∧ op_May.f k l0 = some 0) ∨ (v = .int .i64 2 ∧ kq = 0 ∧ op_May.f k l0 = some 0 ∧ op_May.f k l1 = some 0)
theorem mn_min (a b : Int) : mn a b = min a b := by unfold mn; omega
theorem R_low {W : World} {b b' : Nat} {ok : Nat → Prop} {v : Value} {l : List S55} (hb : b' ≤ b) (h : Kd.R k55 55 W b ok v l) : Kd.R k55 55 W b' (fun _ => True) v l := Kd.R_mono (Kd.R_lower h hb) (fun _ _ => trivial)
set_option maxHeartbeats 40000000 in
set_option maxRecDepth 100000 in
theorem compose_Of.calls (k : Nat) (A0 : Option Addr) (c0 : Nat) (l0 : List S55) (A1 : Option Addr) (c1 : Nat) (l1 : List S55) (r1 : List S55) (r2 : Int) (w : World) (hG : Glob w) (hr0 : Kd.C k55 w A0 l0.length l0) (hc0 : l0.length ≤ c0) (hr1 : Kd.C k55 w A1 l1.length l1) (hc1 : l1.length ≤ c1) (h : compose_Of.f k l0 l1 = some (r1, r2)) :
  Calls Tryd.prog 12 #[.slice A0 l0.length c0, .slice A1 l1.length c1] w fun e w' => ∃ v0_ : Value, e = .returned (.tuple #[v0_, .int .i64 r2]) ∧ Kd.R k55 55 w' w.heap.size (fun _ => True) v0_ r1 ∧ Below w.heap.size w w' := by
 have HG := Aside0.mk hG;have HR0 := Aside0.mk hr0;have HC0 := Aside0.mk hc0;have HR1 := Aside0.mk hr1;have HC1 := Aside0.mk hc1;have H := Aside0.mk h;have HM : Aside0 (l0.length ≤ 9223372036854775807 ∧ l1.length ≤ 9223372036854775807) := ⟨hr0.2.1, hr1.2.1⟩
 clear hG hr0 hc0 hr1 hc1 h;go_enter Tryd.func12, Tryd.ntmps12
 obtain ⟨ie, hie, hi1, hi2⟩ := info_rows
 have HIE := Aside0.mk hie;have HI1 := Aside0.mk hi1;have HI2 := Aside0.mk hi2;clear hie hi1 hi2;go_wp2
 go_step3
 go_wp2_with (refine wpList_buildSlice rfl 46 22 2 _ rfl #[.slice A0 l0.length c0, .slice A1 l1.length c1] ie (.slice none 0 0) (by kernel_rfl) HIE.out HI2.out (by rw [HI1.out]; decide) (by rw [HI1.out]; decide) (fill_two A0 A1 l0.length c0 l1.length c1 ie.size HI1.out) ?_)
 have hws : w.heap.size < (w.alloc (.cells #[.slice A0 l0.length c0, .slice A1 l1.length c1] 22)).heap.size := by rw [size_alloc]; omega
 have HBK := Aside0.mk (blk_new w (.cells #[.slice A0 l0.length c0, .slice A1 l1.length c1] 22))
 have HB0 := Aside0.mk (below_alloc (Below.refl w.heap.size w) (.cells #[.slice A0 l0.length c0, .slice A1 l1.length c1] 22))
 go_loopg [19] 2 (fun kq v19 w' => MayI k l0 l1 kq v19 ∧ Aside0 (Below w.heap.size w w') ∧ Aside0 (w'.heap[w.heap.size]? = some (.cells #[.slice A0 l0.length c0, .slice A1 l1.length c1] 22 (0, 0))))
 case atStart => exact ⟨.inl ⟨rfl, rfl⟩, HB0, HBK⟩
 case round =>
  clear HB0 HBK hws HIE HI1 HI2;obtain ⟨hm, HBW, HBL⟩ := hrel
  rcases hm with ⟨rfl, rfl⟩ | ⟨rfl, rfl, hm0⟩ | ⟨rfl, rfl, hm0, hm1⟩
  ·obtain ⟨e0, he0, hrest⟩ := Option.bind_eq_some_iff.1 (show (op_May.f k l0).bind _ = _ from H.out)
   have cell0 : wr.cell? ⟨w.heap.size, 0, none⟩ = some (.slice A0 l0.length c0) := (blk_cell HBL.out 0).trans rfl
   have HE := Aside0.mk he0;by_cases hz : e0 = 0
   ·subst hz
    clear hrest he0;go_wp2_with (go_at_call 39; (with_reducible refine (op_May.calls k _ _ l0 0 _ (HG.out.below HBW.out) (Kd.C_below HR0.out HBW.out) HC0.out HE.out).mono ?_); rintro e w1 ⟨rfl, hb⟩; have HB1 := Aside0.mk hb; clear hb)
    go_roundg 1
    case measure => decide
    case rel => exact ⟨.inr (.inl ⟨rfl, rfl, HE.out⟩), ⟨below_step HBW.out HB1.out⟩, ⟨blk_below HBL.out HB1.out⟩⟩
   ·rw [if_neg hz] at hrest
    obtain ⟨rfl, rfl⟩ : [] = r1 ∧ e0 = r2 := by simpa using hrest
    have d1 : (e0 != 0) = true := by simp [hz]
    clear hrest he0 hz;go_wp2_with (go_at_call 39; (with_reducible refine (op_May.calls k _ _ l0 e0 _ (HG.out.below HBW.out) (Kd.C_below HR0.out HBW.out) HC0.out HE.out).mono ?_); rintro e w1 ⟨rfl, hb⟩; have HB1 := Aside0.mk hb; clear hb)
    rw [Exit.noGoto_ret]
    go_ret2
    exact ⟨_, rfl, Kd.R_nil _ _ _ _ _, below_step HBW.out HB1.out⟩
  ·obtain ⟨e0, he0, hrest⟩ := Option.bind_eq_some_iff.1 (show (op_May.f k l0).bind _ = _ from H.out)
   obtain rfl : e0 = 0 := by rw [hm0] at he0; exact (Option.some.inj he0).symm
   rw [if_pos rfl] at hrest
   obtain ⟨e1, he1, hrest⟩ := Option.bind_eq_some_iff.1 hrest
   have cell1 : wr.cell? ⟨w.heap.size, 1, none⟩ = some (.slice A1 l1.length c1) := (blk_cell HBL.out 1).trans rfl
   have HE0 := Aside0.mk he0;have HE := Aside0.mk he1;by_cases hz : e1 = 0
   ·subst hz
    clear hrest he1 he0 hm0;go_wp2_with (go_at_call 39; (with_reducible refine (op_May.calls k _ _ l1 0 _ (HG.out.below HBW.out) (Kd.C_below HR1.out HBW.out) HC1.out HE.out).mono ?_); rintro e w1 ⟨rfl, hb⟩; have HB1 := Aside0.mk hb; clear hb)
    go_roundg 0
    case measure => decide
    case rel => exact ⟨.inr (.inr ⟨rfl, rfl, HE0.out, HE.out⟩), ⟨below_step HBW.out HB1.out⟩, ⟨blk_below HBL.out HB1.out⟩⟩
   ·rw [if_neg hz] at hrest
    obtain ⟨rfl, rfl⟩ : [] = r1 ∧ e1 = r2 := by simpa using hrest
    have d1 : (e1 != 0) = true := by simp [hz]
    clear hrest he1 he0 hm0 hz;go_wp2_with (go_at_call 39; (with_reducible refine (op_May.calls k _ _ l1 e1 _ (HG.out.below HBW.out) (Kd.C_below HR1.out HBW.out) HC1.out HE.out).mono ?_); rintro e w1 ⟨rfl, hb⟩; have HB1 := Aside0.mk hb; clear hb)
    rw [Exit.noGoto_ret]
    go_ret2
    exact ⟨_, rfl, Kd.R_nil _ _ _ _ _, below_step HBW.out HB1.out⟩
  ·obtain ⟨e0, he0, hrest⟩ := Option.bind_eq_some_iff.1 (show (op_May.f k l0).bind _ = _ from H.out)
   obtain rfl : e0 = 0 := by rw [hm0] at he0; exact (Option.some.inj he0).symm
   rw [if_pos rfl] at hrest
   obtain ⟨e1, he1, hrest⟩ := Option.bind_eq_some_iff.1 hrest
   obtain rfl : e1 = 0 := by rw [hm1] at he1; exact (Option.some.inj he1).symm
   rw [if_pos rfl] at hrest
   obtain ⟨n, hn, hrest⟩ := Option.bind_eq_some_iff.1 hrest
   obtain ⟨m, hm, hrest⟩ := Option.bind_eq_some_iff.1 hrest
   have HN := Aside0.mk hn;have HMM := Aside0.mk hm;clear he0 he1 hm0 hm1 hn hm HBL;by_cases hz : n = m
   ·subst hz
    rw [if_pos rfl] at hrest
    obtain ⟨⟨lx, tx⟩, hx, hrest⟩ := Option.bind_eq_some_iff.1 hrest
    obtain ⟨⟨ly, ty⟩, hy, hrest⟩ := Option.bind_eq_some_iff.1 hrest
    obtain ⟨out, ho, hrest⟩ := Option.bind_eq_some_iff.1 hrest
    obtain ⟨r, hr, hrest⟩ := Option.bind_eq_some_iff.1 hrest
    obtain ⟨rfl, rfl⟩ : r = r1 ∧ 0 = r2 := by simpa using hrest
    have HX := Aside0.mk hx;have HY := Aside0.mk hy;have HO := Aside0.mk ho;have HRR := Aside0.mk hr;clear hx hy ho hr hrest;go_wp2_with (first | (go_at_call 11; (with_reducible refine (op_Out.calls k _ _ l0 n _ (HG.out.below HBW.out) (Kd.C_below HR0.out HBW.out) HC0.out HN.out).mono ?_); rintro e w1 ⟨rfl, hb⟩; have HB1 := Aside0.mk (below_step HBW.out hb); clear hb) | (go_at_call 25; (with_reducible refine (op_In.calls k _ _ l1 n _ (HG.out.below HB1.out) (Kd.C_below HR1.out HB1.out) HC1.out HMM.out).mono ?_); rintro e w2 ⟨rfl, hb⟩; have HB2 := Aside0.mk (below_step HB1.out hb); clear hb) | (go_at_call 40; (with_reducible refine (newReader.calls k A0 c0 l0 lx tx w _ HB2.out (Kd.C_below HR0.out HB2.out) HC0.out HX.out).mono ?_); rintro e w3 ⟨gx, glx, gtx, cx, cBx, Ax, Bx, rfl, RX, hb, _, _, _⟩; have HB3 := Aside0.mk (below_step HB2.out hb); have HRX := Aside0.mk RX; clear hb RX) | (go_at_call 40; (with_reducible refine (newReader.calls k A1 c1 l1 ly ty w _ HB3.out (Kd.C_below HR1.out HB3.out) HC1.out HY.out).mono ?_); rintro e w4 ⟨gy, gly, gty, cy, cBy, Ay, By, rfl, RY, hb, hy1, hy2, hy3⟩; have ST0 : Aside0 (CmS w w4 gx glx gy gly lx tx ly ty [] (.slice none 0 0)) := ⟨⟨below_step HB3.out hb, ⟨gtx, cx, cBx, Ax, Bx, HRX.out.below hb⟩, ⟨gty, cy, cBy, Ay, By, RY⟩, (by have := HRX.out.lt.1; omega), (fun a b => by have := HRX.out.lt.2.1 a; have := hy2 b; omega), Kd.R_nil _ _ _ _ _, (fun _ e => by cases e), (fun _ e => by cases e)⟩⟩; clear hb RY hy1 hy2 hy3))
    go_step3
    go_wp2
    go_loopg [11] k (fun kq v11 w' => ∃ (lx' : List S55) (tx' : List Int) (ly' : List S55) (ty' : List Int) (o : List S55), Aside0 (CmS w w' gx glx gy gly lx' tx' ly' ty' o v11) ∧ Aside0 (composeL kq lx' tx' ly' ty' o = some out))
    case atStart => exact ⟨_, _, _, _, _, ST0, HO⟩
    case round =>
     -- ROUND
     obtain ⟨lx, tx, ly, ty, o, ST, HC⟩ := hrel
     have hc := HC.out;clear ST0 HO;cases gk with
     | zero => cases hc
     | succ kq =>
      rw [composeL] at hc
      obtain ⟨gtx, cx, cBx, Ax, Bx, Rx⟩ := ST.out.x
      obtain ⟨gty, cy, cBy, Ay, By, Ry⟩ := ST.out.y
      replace Rx := Aside0.mk Rx
      replace Ry := Aside0.mk Ry
      by_cases hy2 : kindR ly = 2
      ·rw [if_pos hy2] at hc
       obtain ⟨⟨x, ly2, ty2⟩, hT, hc⟩ := Option.bind_eq_some_iff.1 hc
       split at hc
       ·next hlt =>
        have d0 : (kindR ly == 2) = true := by simp [hy2]
        have HTy := Aside0.mk hT;have HPy : Aside0 (0 < ly.length) := ⟨(takeR_len hT).2⟩
        have HC2 := Aside0.mk hc;have HLT := Aside0.mk hlt;clear hT hc hlt hy2 HC;go_wp2_with (first | (go_at_call 41; (with_reducible refine (reader_kind.calls w.heap.size gy gly gty cy cBy Ay By ly ty _ Ry.out).mono ?_); rintro e w1 ⟨rfl, rfl⟩) | (go_at_call 43; (with_reducible refine (reader_size.calls w.heap.size gy gly gty cy cBy Ay By ly ty _ Ry.out HPy.out).mono ?_); rintro e w1 ⟨rfl, rfl⟩) | (go_at_call 42; (with_reducible refine (reader_take.calls w.heap.size gy gly gty cy cBy Ay By ly ty (sizeR ly ty) w _ rfl (below_drew1 ST.out.b) (Ry.out.below (below_drew1 (Below.refl _ _))) x ly2 ty2 HTy.out).mono ?_); rintro e W1 ⟨rfl, tp⟩; have ST1 := Aside0.mk (((ST.out.below (below_drew1 (Below.refl _ _))).swap.take HPy.out (takeR_len HTy.out).1 tp).swap); clear tp) | ((with_reducible refine gate_builtin (b := .append) (xs := #[.tmp 42, .tmp 47]) rfl ?_); (try (refine gate_guard (by rfl) ?_; dsimp only)); at_builtin; refine Kd.R_append k55 (w0 := w) w.heap.size rfl (.tmp 42) (.tmp 47) 22 55 (.agg #[.int .i64 0, .int .i64 0, .string ⟨#[]⟩]) 32 rfl Tryd.underlying22 info55 rfl (by decide) (by omega) _ o x [.int .i64 x.f0, .int .i64 x.f1, .string x.f2] (fun _ => True) (fun _ => False) rfl (by first | rfl | (rw [size_alloc, size_alloc]; rfl)) (k55_mkM _ _ _ x) (fun _ hk => hk.elim) (fun _ _ => trivial) ST1.out.o ST1.out.b ST1.out.b.size ?aL ?_; (case aL => have := HLT.out; omega); intro v1 w5 ho1 hb1 hg1 hat1; have STF := Aside0.mk (CmS.append ST1.out ho1 hb1 hg1 hat1); clear ho1 hb1 hg1 hat1))
        go_roundg kq
        case measure => omega
        case rel => exact ⟨_, _, _, _, _, STF, HC2⟩
       ·cases hc
      ·rw [if_neg hy2] at hc
       have d0 : (kindR ly == 2) = false := by simp [hy2]
       clear hy2;by_cases hx3 : kindR lx = 3
       ·rw [if_pos hx3] at hc
        obtain ⟨⟨x, lx2, tx2⟩, hT, hc⟩ := Option.bind_eq_some_iff.1 hc
        split at hc
        ·next hlt =>
         have d1 : (kindR lx == 3) = true := by simp [hx3]
         have HTx := Aside0.mk hT;have HPx : Aside0 (0 < lx.length) := ⟨(takeR_len hT).2⟩
         have HC2 := Aside0.mk hc;have HLT := Aside0.mk hlt;clear hT hc hlt hx3 HC;go_wp2_with (first | (go_at_call 41; (with_reducible refine (reader_kind.calls w.heap.size gy gly gty cy cBy Ay By ly ty _ Ry.out).mono ?_); rintro e w1 ⟨rfl, rfl⟩) | (go_at_call 41; (with_reducible refine (reader_kind.calls w.heap.size gx glx gtx cx cBx Ax Bx lx tx _ Rx.out).mono ?_); rintro e w1 ⟨rfl, rfl⟩) | (go_at_call 43; (with_reducible refine (reader_size.calls w.heap.size gx glx gtx cx cBx Ax Bx lx tx _ Rx.out HPx.out).mono ?_); rintro e w1 ⟨rfl, rfl⟩) | (go_at_call 42; (with_reducible refine (reader_take.calls w.heap.size gx glx gtx cx cBx Ax Bx lx tx (sizeR lx tx) w _ rfl (below_drew1 ST.out.b) (Rx.out.below (below_drew1 (Below.refl _ _))) x lx2 tx2 HTx.out).mono ?_); rintro e W1 ⟨rfl, tp⟩; have ST1 := Aside0.mk ((ST.out.below (below_drew1 (Below.refl _ _))).take HPx.out (takeR_len HTx.out).1 tp); clear tp) | ((with_reducible refine gate_builtin (b := .append) (xs := #[.tmp 53, .tmp 58]) rfl ?_); (try (refine gate_guard (by rfl) ?_; dsimp only)); at_builtin; refine Kd.R_append k55 (w0 := w) w.heap.size rfl (.tmp 53) (.tmp 58) 22 55 (.agg #[.int .i64 0, .int .i64 0, .string ⟨#[]⟩]) 32 rfl Tryd.underlying22 info55 rfl (by decide) (by omega) _ o x [.int .i64 x.f0, .int .i64 x.f1, .string x.f2] (fun _ => True) (fun _ => False) rfl (by first | rfl | (rw [size_alloc, size_alloc]; rfl)) (k55_mkM _ _ _ x) (fun _ hk => hk.elim) (fun _ _ => trivial) ST1.out.o ST1.out.b ST1.out.b.size ?aL ?_; (case aL => have := HLT.out; omega); intro v1 w5 ho1 hb1 hg1 hat1; have STF := Aside0.mk (CmS.append ST1.out ho1 hb1 hg1 hat1); clear ho1 hb1 hg1 hat1))
         go_roundg kq
         case measure => omega
         case rel => exact ⟨_, _, _, _, _, STF, HC2⟩
        ·cases hc
       ·rw [if_neg hx3] at hc
        have d1 : (kindR lx == 3) = false := by simp [hx3]
        clear hx3;by_cases h00 : kindR lx = 0 ∨ kindR ly = 0
        ·rw [if_pos h00] at hc
         obtain rfl : o = out := Option.some.inj hc
         have d2 : (kindR lx == 0) = false → (kindR ly == 0) = true := by
          intro h;rcases h00 with h0 | h0
          ·simp [h0] at h
          ·simp [h0]
         clear hc h00 HC;obtain ⟨Av, cv, rfl⟩ := Kd.R_slice ST.out.o
         obtain ⟨_, hcv, hC⟩ := Kd.R_reads' ST.out.o
         have HCV := Aside0.mk hcv;have HCC := Aside0.mk hC;clear hcv hC;go_wp2_with (first | (go_at_call 41; (with_reducible refine (reader_kind.calls w.heap.size gy gly gty cy cBy Ay By ly ty _ Ry.out).mono ?_); rintro e w1 ⟨rfl, rfl⟩) | (go_at_call 41; (with_reducible refine (reader_kind.calls w.heap.size gx glx gtx cx cBx Ax Bx lx tx _ Rx.out).mono ?_); rintro e w1 ⟨rfl, rfl⟩) | (go_at_call 44; (with_reducible refine (normal_Of.calls k _ _ o r _ HCC.out HCV.out HRR.out).mono ?_); rintro e W1 ⟨v1, rfl, hv1, hb⟩; have HV1 := Aside0.mk hv1; have HB5 := Aside0.mk hb; clear hv1 hb))
         all_goals (try rw [Exit.noGoto_ret])
         all_goals go_ret2
         all_goals exact ⟨_, rfl, R_low (Nat.le_trans ST.out.b.size (Nat.le_refl _)) HV1.out, below_step ST.out.b HB5.out⟩
        ·rw [if_neg h00] at hc
         simp only [mn_min] at hc
         have d2 : (kindR lx == 0) = false := by simp; exact fun h => h00 (.inl h)
         have d3 : (kindR ly == 0) = false := by simp; exact fun h => h00 (.inr h)
         obtain ⟨⟨p, lx2, tx2⟩, hTx, hc⟩ := Option.bind_eq_some_iff.1 hc
         obtain ⟨⟨q, ly2, ty2⟩, hTy, hc⟩ := Option.bind_eq_some_iff.1 hc
         have HTx := Aside0.mk hTx;have HTy := Aside0.mk hTy;have HPx : Aside0 (0 < lx.length) := ⟨(takeR_len hTx).2⟩
         have HPy : Aside0 (0 < ly.length) := ⟨(takeR_len hTy).2⟩
         obtain ⟨Av, cv, rfl⟩ := Kd.R_slice ST.out.o
         clear hTx hTy h00 HC;by_cases hq1 : q.f0 = 1
         ·rw [if_pos hq1] at hc
          split at hc
          ·next hlt =>
           have dq : (q.f0 == 1) = true := by simp [hq1]
           have HC2 := Aside0.mk hc;have HLT := Aside0.mk hlt;clear hc hlt hq1;go_wp2_with (first | (go_at_call 41; (with_reducible refine (reader_kind.calls w.heap.size gy gly gty cy cBy Ay By ly ty _ Ry.out).mono ?_); rintro e w1 ⟨rfl, rfl⟩) | (go_at_call 41; (with_reducible refine (reader_kind.calls w.heap.size gx glx gtx cx cBx Ax Bx lx tx _ Rx.out).mono ?_); rintro e w1 ⟨rfl, rfl⟩) | (go_at_call 43; (with_reducible refine (reader_size.calls w.heap.size gx glx gtx cx cBx Ax Bx lx tx _ Rx.out HPx.out).mono ?_); rintro e w1 ⟨rfl, rfl⟩) | (go_at_call 43; (with_reducible refine (reader_size.calls w.heap.size gy gly gty cy cBy Ay By ly ty _ (Ry.out.below (below_drew1 (Below.refl _ _))) HPy.out).mono ?_); rintro e w1 ⟨rfl, rfl⟩) | (go_at_call 42; (with_reducible refine (reader_take.calls w.heap.size gx glx gtx cx cBx Ax Bx lx tx (min (sizeR lx tx) (sizeR ly ty)) w _ rfl (below_drew1 (below_drew1 ST.out.b)) (Rx.out.below (below_drew1 (below_drew1 (Below.refl _ _)))) p lx2 tx2 HTx.out).mono ?_); rintro e W1 ⟨rfl, tp⟩; have ST1 := Aside0.mk ((ST.out.below (below_drew1 (below_drew1 (Below.refl _ _)))).take HPx.out (takeR_len HTx.out).1 tp); clear tp; obtain ⟨gty3, cy3, cBy3, Ay3, By3, Ry3_⟩ := ST1.out.y; have Ry3 := Aside0.mk Ry3_; clear Ry3_) | (go_at_call 42; (with_reducible refine (reader_take.calls w.heap.size gy gly gty3 cy3 cBy3 Ay3 By3 ly ty (min (sizeR lx tx) (sizeR ly ty)) w _ rfl ST1.out.b Ry3.out q ly2 ty2 HTy.out).mono ?_); rintro e W2 ⟨rfl, tp⟩; have ST2 := Aside0.mk ((ST1.out.swap.take HPy.out (takeR_len HTy.out).1 tp).swap); have ST3 := Aside0.mk (ST2.out.below (below_alloc (below_alloc (Below.refl W2.heap.size W2) (.cells #[.int .i64 p.f0, .int .i64 p.f1, .string p.f2] 55)) (.cells #[.int .i64 q.f0, .int .i64 q.f1, .string q.f2] 55))); clear tp) | ((with_reducible refine gate_builtin (b := .append) (xs := #[.tmp 84, .tmp 86]) rfl ?_); (try (refine gate_guard (by rfl) ?_; dsimp only)); at_builtin; refine Kd.R_append k55 (w0 := w) w.heap.size rfl (.tmp 84) (.tmp 86) 22 55 (.agg #[.int .i64 0, .int .i64 0, .string ⟨#[]⟩]) 32 rfl Tryd.underlying22 info55 rfl (by decide) (by omega) _ o p [.int .i64 p.f0, .int .i64 p.f1, .string p.f2] (fun _ => True) (fun _ => False) rfl (by first | rfl | (rw [size_alloc, size_alloc]; rfl)) (k55_mkM _ _ _ p) (fun _ hk => hk.elim) (fun _ _ => trivial) ST3.out.o ST3.out.b ST3.out.b.size ?aL ?_; (case aL => have := HLT.out; omega); intro v1 w5 ho1 hb1 hg1 hat1; have STF := Aside0.mk (CmS.append ST3.out ho1 hb1 hg1 hat1); clear ho1 hb1 hg1 hat1))
           go_roundg kq
           case measure => omega
           case rel => exact ⟨_, _, _, _, _, STF, HC2⟩
          ·cases hc
         ·rw [if_neg hq1] at hc
          have dq : (q.f0 == 1) = false := by simp [hq1]
          by_cases hp1 : p.f0 = 1
          ·rw [if_pos hp1] at hc
           split at hc
           ·next hlt =>
            have dp : (p.f0 == 1) = true := by simp [hp1]
            have HC2 := Aside0.mk hc;have HLT := Aside0.mk hlt;clear hc hlt hq1 hp1;go_wp2_with (first | (go_at_call 41; (with_reducible refine (reader_kind.calls w.heap.size gy gly gty cy cBy Ay By ly ty _ Ry.out).mono ?_); rintro e w1 ⟨rfl, rfl⟩) | (go_at_call 41; (with_reducible refine (reader_kind.calls w.heap.size gx glx gtx cx cBx Ax Bx lx tx _ Rx.out).mono ?_); rintro e w1 ⟨rfl, rfl⟩) | (go_at_call 43; (with_reducible refine (reader_size.calls w.heap.size gx glx gtx cx cBx Ax Bx lx tx _ Rx.out HPx.out).mono ?_); rintro e w1 ⟨rfl, rfl⟩) | (go_at_call 43; (with_reducible refine (reader_size.calls w.heap.size gy gly gty cy cBy Ay By ly ty _ (Ry.out.below (below_drew1 (Below.refl _ _))) HPy.out).mono ?_); rintro e w1 ⟨rfl, rfl⟩) | (go_at_call 42; (with_reducible refine (reader_take.calls w.heap.size gx glx gtx cx cBx Ax Bx lx tx (min (sizeR lx tx) (sizeR ly ty)) w _ rfl (below_drew1 (below_drew1 ST.out.b)) (Rx.out.below (below_drew1 (below_drew1 (Below.refl _ _)))) p lx2 tx2 HTx.out).mono ?_); rintro e W1 ⟨rfl, tp⟩; have ST1 := Aside0.mk ((ST.out.below (below_drew1 (below_drew1 (Below.refl _ _)))).take HPx.out (takeR_len HTx.out).1 tp); clear tp; obtain ⟨gty3, cy3, cBy3, Ay3, By3, Ry3_⟩ := ST1.out.y; have Ry3 := Aside0.mk Ry3_; clear Ry3_) | (go_at_call 42; (with_reducible refine (reader_take.calls w.heap.size gy gly gty3 cy3 cBy3 Ay3 By3 ly ty (min (sizeR lx tx) (sizeR ly ty)) w _ rfl ST1.out.b Ry3.out q ly2 ty2 HTy.out).mono ?_); rintro e W2 ⟨rfl, tp⟩; have ST2 := Aside0.mk ((ST1.out.swap.take HPy.out (takeR_len HTy.out).1 tp).swap); have ST3 := Aside0.mk (ST2.out.below (below_alloc (below_alloc (Below.refl W2.heap.size W2) (.cells #[.int .i64 p.f0, .int .i64 p.f1, .string p.f2] 55)) (.cells #[.int .i64 q.f0, .int .i64 q.f1, .string q.f2] 55))); clear tp) | ((with_reducible refine gate_builtin (b := .append) (xs := #[.tmp 92, .tmp 94]) rfl ?_); (try (refine gate_guard (by rfl) ?_; dsimp only)); at_builtin; refine Kd.R_append k55 (w0 := w) w.heap.size rfl (.tmp 92) (.tmp 94) 22 55 (.agg #[.int .i64 0, .int .i64 0, .string ⟨#[]⟩]) 32 rfl Tryd.underlying22 info55 rfl (by decide) (by omega) _ o q [.int .i64 q.f0, .int .i64 q.f1, .string q.f2] (fun _ => True) (fun _ => False) rfl (by first | rfl | (rw [size_alloc, size_alloc]; rfl)) (k55_mkM _ _ _ q) (fun _ hk => hk.elim) (fun _ _ => trivial) ST3.out.o ST3.out.b ST3.out.b.size ?aL ?_; (case aL => have := HLT.out; omega); intro v1 w5 ho1 hb1 hg1 hat1; have STF := Aside0.mk (CmS.append ST3.out ho1 hb1 hg1 hat1); clear ho1 hb1 hg1 hat1))
            go_roundg kq
            case measure => omega
            case rel => exact ⟨_, _, _, _, _, STF, HC2⟩
           ·cases hc
          ·rw [if_neg hp1] at hc
           have dp : (p.f0 == 1) = false := by simp [hp1]
           have HC2 := Aside0.mk hc;clear hc hq1 hp1;go_wp2_with (first | (go_at_call 41; (with_reducible refine (reader_kind.calls w.heap.size gy gly gty cy cBy Ay By ly ty _ Ry.out).mono ?_); rintro e w1 ⟨rfl, rfl⟩) | (go_at_call 41; (with_reducible refine (reader_kind.calls w.heap.size gx glx gtx cx cBx Ax Bx lx tx _ Rx.out).mono ?_); rintro e w1 ⟨rfl, rfl⟩) | (go_at_call 43; (with_reducible refine (reader_size.calls w.heap.size gx glx gtx cx cBx Ax Bx lx tx _ Rx.out HPx.out).mono ?_); rintro e w1 ⟨rfl, rfl⟩) | (go_at_call 43; (with_reducible refine (reader_size.calls w.heap.size gy gly gty cy cBy Ay By ly ty _ (Ry.out.below (below_drew1 (Below.refl _ _))) HPy.out).mono ?_); rintro e w1 ⟨rfl, rfl⟩) | (go_at_call 42; (with_reducible refine (reader_take.calls w.heap.size gx glx gtx cx cBx Ax Bx lx tx (min (sizeR lx tx) (sizeR ly ty)) w _ rfl (below_drew1 (below_drew1 ST.out.b)) (Rx.out.below (below_drew1 (below_drew1 (Below.refl _ _)))) p lx2 tx2 HTx.out).mono ?_); rintro e W1 ⟨rfl, tp⟩; have ST1 := Aside0.mk ((ST.out.below (below_drew1 (below_drew1 (Below.refl _ _)))).take HPx.out (takeR_len HTx.out).1 tp); clear tp; obtain ⟨gty3, cy3, cBy3, Ay3, By3, Ry3_⟩ := ST1.out.y; have Ry3 := Aside0.mk Ry3_; clear Ry3_) | (go_at_call 42; (with_reducible refine (reader_take.calls w.heap.size gy gly gty3 cy3 cBy3 Ay3 By3 ly ty (min (sizeR lx tx) (sizeR ly ty)) w _ rfl ST1.out.b Ry3.out q ly2 ty2 HTy.out).mono ?_); rintro e W2 ⟨rfl, tp⟩; have ST2 := Aside0.mk ((ST1.out.swap.take HPy.out (takeR_len HTy.out).1 tp).swap); have ST3 := Aside0.mk (ST2.out.below (below_alloc (below_alloc (Below.refl W2.heap.size W2) (.cells #[.int .i64 p.f0, .int .i64 p.f1, .string p.f2] 55)) (.cells #[.int .i64 q.f0, .int .i64 q.f1, .string q.f2] 55))); clear tp))
           go_roundg kq
           case measure => omega
           case rel => exact ⟨_, _, _, _, _, ST3, HC2⟩
   ·rw [if_neg hz] at hrest
    obtain ⟨rfl, rfl⟩ : [] = r1 ∧ 5 = r2 := by simpa using hrest
    have d1 : (n != m) = true := by simp [hz]
    clear hrest hz;go_wp2_with (first | (go_at_call 11; (with_reducible refine (op_Out.calls k _ _ l0 n _ (HG.out.below HBW.out) (Kd.C_below HR0.out HBW.out) HC0.out HN.out).mono ?_); rintro e w1 ⟨rfl, hb⟩; have HB1 := Aside0.mk hb; clear hb) | (go_at_call 25; (with_reducible refine (op_In.calls k _ _ l1 m _ (HG.out.below (below_step HBW.out HB1.out)) (Kd.C_below HR1.out (below_step HBW.out HB1.out)) HC1.out HMM.out).mono ?_); rintro e w2 ⟨rfl, hb⟩; have HB2 := Aside0.mk hb; clear hb))
    rw [Exit.noGoto_ret]
    go_ret2
    exact ⟨_, rfl, Kd.R_nil _ _ _ _ _, below_step (below_step HBW.out HB1.out) HB2.out⟩
end Go.Proofs.YtekjfodfedpioaaDoor.F
end
section
namespace Go.Proofs.YtekjfodfedpioaaDoor.F
open Go.RowKit Go.Proofs.YtekjfodfedpioaaDoorW.PrintWords Go.Proofs.YtekjfodfedpioaaDoorW.PrintLast Go.Proofs.YtekjfodfedpioaaDoorW.PrintMore
attribute [local go_sem] max2_int min2_int max_two min_two max_three min_three max_four min_four cell_setCell_isSome
set_option linter.unusedVariables false
set_option linter.unusedSimpArgs false
open Kd
def epitomelaw09_shown.f (k : Nat)  : Option (Bool) := (epitomelaw09_spans.f k (⟨#[107, 50, 112, 49, 107, 49]⟩ : ByteArray)).bind fun t101 => ((epitomelaw09_spans.f k (⟨#[107, 49, 100, 49, 107, 50]⟩ : ByteArray)).bind fun t104 => ((compose_Of.f k t101 t104).bind fun bt107 => ((epitomelaw09_spans.f k (⟨#[107, 49, 100, 49, 107, 49]⟩ : ByteArray)).bind fun t111 => ((epitomelaw09_spans.f k (⟨#[107, 49, 112, 49, 107, 49]⟩ : ByteArray)).bind fun t114 => ((compose_Of.f k t111 t114).bind fun bt117 => (if bt107.2 = 0 then (if bt117.2 = 0 then ((epitomelaw09_spans.f k (⟨#[107, 49, 100, 49, 112, 49, 107, 49]⟩ : ByteArray)).bind fun t121 => ((epitomeref04_Same.f k bt107.1 t121).bind fun t124 => (if t124 = true then ((epitomelaw09_spans.f k (⟨#[107, 49, 112, 49, 100, 49, 107, 49]⟩ : ByteArray)).bind fun t125 => ((epitomeref04_Same.f k bt117.1 t125).bind fun t128 => (some t128))) else (some false)))) else (some false)) else (some false)))))))
theorem epitomelaw09_shown.mono : ∀ k, LeO (epitomelaw09_shown.f k ) (epitomelaw09_shown.f (k + 1) ) := by
  intro  k
  unfold epitomelaw09_shown.f
  repeat' first
      | (with_reducible exact compose_Of.mono _ _ _)
      | (with_reducible exact epitomelaw09_spans.mono _ _)
      | (with_reducible exact epitomeref04_Same.mono _ _ _)
      | (with_reducible exact LeO.refl _)
      | (with_reducible exact LeO.none _)
      | (with_reducible refine LeO.ite ?_ ?_)
      | (with_reducible refine LeO.bind ?_ (fun _ => ?_))
      | exact compose_Of.mono _ _ _
      | exact epitomelaw09_spans.mono _ _
      | exact epitomeref04_Same.mono _ _ _
      | exact LeO.none _
      | refine LeO.ite ?_ ?_
      | refine LeO.bind ?_ (fun _ => ?_)
set_option maxHeartbeats 40000000 in
set_option maxRecDepth 100000 in
theorem epitomelaw09_shown.calls (k : Nat)  (r : Bool) (w : World) (hG : Glob w) (h : epitomelaw09_shown.f k  = some r) :
  Calls Tryd.prog 9 #[] w fun e w' => e = .returned (.bool r) ∧ Below w.heap.size w w' := by
 have HG := Am hG;clear hG;have HB := Am (Below.refl w.heap.size w)
 have H : ((epitomelaw09_spans.f k (⟨#[107, 50, 112, 49, 107, 49]⟩ : ByteArray)).bind fun t101 => ((epitomelaw09_spans.f k (⟨#[107, 49, 100, 49, 107, 50]⟩ : ByteArray)).bind fun t104 => ((compose_Of.f k t101 t104).bind fun bt107 => ((epitomelaw09_spans.f k (⟨#[107, 49, 100, 49, 107, 49]⟩ : ByteArray)).bind fun t111 => ((epitomelaw09_spans.f k (⟨#[107, 49, 112, 49, 107, 49]⟩ : ByteArray)).bind fun t114 => ((compose_Of.f k t111 t114).bind fun bt117 => (if bt107.2 = 0 then (if bt117.2 = 0 then ((epitomelaw09_spans.f k (⟨#[107, 49, 100, 49, 112, 49, 107, 49]⟩ : ByteArray)).bind fun t121 => ((epitomeref04_Same.f k bt107.1 t121).bind fun t124 => (if t124 = true then ((epitomelaw09_spans.f k (⟨#[107, 49, 112, 49, 100, 49, 107, 49]⟩ : ByteArray)).bind fun t125 => ((epitomeref04_Same.f k bt117.1 t125).bind fun t128 => (some t128))) else (some false)))) else (some false)) else (some false)))))))) = some r := h
 clear h;replace H := Option.bind_eq_some_iff.mp H;obtain ⟨t101, A10, H⟩ := H;have A1 := Am A10;clear A10;replace H := Option.bind_eq_some_iff.mp H;obtain ⟨t104, A20, H⟩ := H;have A2 := Am A20;clear A20;replace H := Option.bind_eq_some_iff.mp H;obtain ⟨⟨t107, t108⟩, A30, H⟩ := H;have A3 := Am A30;clear A30;replace H := Option.bind_eq_some_iff.mp H;obtain ⟨t111, A40, H⟩ := H;have A4 := Am A40;clear A40;replace H := Option.bind_eq_some_iff.mp H;obtain ⟨t114, A50, H⟩ := H;have A5 := Am A50;clear A50;replace H := Option.bind_eq_some_iff.mp H;obtain ⟨⟨t117, t118⟩, A60, H⟩ := H;have A6 := Am A60;clear A60;by_cases c7 : t108 = 0
 ·rw [if_pos c7] at H;have c7b0 : (t108 == 0) = true := beq_iff_eq.mpr c7
  have c7b1 : (t108 != 0) = false := bne_eq_false_iff_eq.mpr c7
  clear c7;by_cases c8 : t118 = 0
  ·rw [if_pos c8] at H;have c8b0 : (t118 == 0) = true := beq_iff_eq.mpr c8
   have c8b1 : (t118 != 0) = false := bne_eq_false_iff_eq.mpr c8
   clear c8;replace H := Option.bind_eq_some_iff.mp H;obtain ⟨t121, A90, H⟩ := H;have A9 := Am A90;clear A90;replace H := Option.bind_eq_some_iff.mp H;obtain ⟨t124, A100, H⟩ := H;have A10 := Am A100;clear A100;by_cases c11 : t124 = true
   ·subst c11
    have H1 : ((epitomelaw09_spans.f k (⟨#[107, 49, 112, 49, 100, 49, 107, 49]⟩ : ByteArray)).bind fun t125 => ((epitomeref04_Same.f k t117 t125).bind fun t128 => (some t128))) = some r := by rw [if_pos rfl] at H; exact H
    clear H;have H := H1
    clear H1;replace H := Option.bind_eq_some_iff.mp H;obtain ⟨t125, A120, H⟩ := H;replace H : ((epitomeref04_Same.f k t117 t125).bind fun t128 => (some t128)) = some r := H
    have A12 := Am A120;clear A120;replace H := Option.bind_eq_some_iff.mp H;obtain ⟨t128, A130, H⟩ := H;replace H : (some t128) = some r := H
    have A13 := Am A130;clear A130;obtain rfl := Option.some.inj H;go_enter Tryd.func9, Tryd.ntmps9
    go_wp2_with (first | ((with_reducible refine gate_callee (f := 35) rfl ?_); refine goesL_ (some 6) rfl rfl Tryd.func35 (by kernel_rfl) rfl #[.string (⟨#[107, 50, 112, 49, 107, 49]⟩ : ByteArray)] rfl zE ?_; (with_reducible refine (epitomelaw09_spans.calls k (⟨#[107, 50, 112, 49, 107, 49]⟩ : ByteArray) t101 _ A1.out).mono ?_); rintro e w14 ⟨v102, rfl, ho0, hb⟩; refine ⟨_, rfl, ?_⟩; have HO103 := Am (R_lower ho0 (below_size (zB HB)));replace HB := Am (below_step (zB HB) hb); (try clear hb); (try clear ho0); (try clear A1)) | ((with_reducible refine gate_callee (f := 35) rfl ?_); refine goesL_ (some 7) rfl rfl Tryd.func35 (by kernel_rfl) rfl #[.string (⟨#[107, 49, 100, 49, 107, 50]⟩ : ByteArray)] rfl zE ?_; (with_reducible refine (epitomelaw09_spans.calls k (⟨#[107, 49, 100, 49, 107, 50]⟩ : ByteArray) t104 _ A2.out).mono ?_); rintro e w15 ⟨v105, rfl, ho0, hb⟩; refine ⟨_, rfl, ?_⟩; have HO106 := Am (R_lower (zn ho0 HO103) (below_size (zB HB)));replace HO103 := Am (zr HO103 ho0 hb);replace HB := Am (below_step (zB HB) hb); (try clear hb); (try clear ho0); obtain ⟨Ao16, co16, eo16⟩ := R_slice HO103.out; subst eo16; obtain ⟨Ao17, co17, eo17⟩ := R_slice HO106.out; subst eo17; (try clear A2)) | ((with_reducible refine gate_callee (f := 12) rfl ?_); refine goesL_ (some 8) rfl rfl Tryd.func12 (by kernel_rfl) rfl #[.slice Ao16 t101.length co16, .slice Ao17 t104.length co17] rfl zE ?_; (with_reducible refine (compose_Of.calls k _ _ t101 _ _ t104 t107 t108 _ ?side1 ?side2 ?side3 ?side4 ?side5 A3.out).mono ?_); (case side1 => exact zg HG HB); (case side2 => exact zI (R_reads' HO103.out).2.2); (case side3 => exact (R_reads' HO103.out).2.1); (case side4 => exact zI (R_reads' HO106.out).2.2); (case side5 => exact (R_reads' HO106.out).2.1); rintro e w18 ⟨v109, rfl, ho0, hb⟩; refine ⟨_, rfl, ?_⟩; have HO110 := Am (R_lower (zn (zn ho0 HO103) HO106) (below_size (zB HB)));replace HO103 := Am (zr HO103 ho0 hb);replace HO106 := Am (zr HO106 ho0 hb);replace HB := Am (below_step (zB HB) hb); (try clear hb); (try clear ho0); (try clear A3)) | ((with_reducible refine gate_callee (f := 35) rfl ?_); refine goesL_ (some 12) rfl rfl Tryd.func35 (by kernel_rfl) rfl #[.string (⟨#[107, 49, 100, 49, 107, 49]⟩ : ByteArray)] rfl zE ?_; (with_reducible refine (epitomelaw09_spans.calls k (⟨#[107, 49, 100, 49, 107, 49]⟩ : ByteArray) t111 _ A4.out).mono ?_); rintro e w19 ⟨v112, rfl, ho0, hb⟩; refine ⟨_, rfl, ?_⟩; have HO113 := Am (R_lower (zn (zn (zn ho0 HO103) HO106) HO110) (below_size (zB HB)));replace HO103 := Am (zr HO103 ho0 hb);replace HO106 := Am (zr HO106 ho0 hb);replace HO110 := Am (zr HO110 ho0 hb);replace HB := Am (below_step (zB HB) hb); (try clear hb); (try clear ho0); (try clear A4)) | ((with_reducible refine gate_callee (f := 35) rfl ?_); refine goesL_ (some 13) rfl rfl Tryd.func35 (by kernel_rfl) rfl #[.string (⟨#[107, 49, 112, 49, 107, 49]⟩ : ByteArray)] rfl zE ?_; (with_reducible refine (epitomelaw09_spans.calls k (⟨#[107, 49, 112, 49, 107, 49]⟩ : ByteArray) t114 _ A5.out).mono ?_); rintro e w20 ⟨v115, rfl, ho0, hb⟩; refine ⟨_, rfl, ?_⟩; have HO116 := Am (R_lower (zn (zn (zn (zn ho0 HO103) HO106) HO110) HO113) (below_size (zB HB)));replace HO103 := Am (zr HO103 ho0 hb);replace HO106 := Am (zr HO106 ho0 hb);replace HO110 := Am (zr HO110 ho0 hb);replace HO113 := Am (zr HO113 ho0 hb);replace HB := Am (below_step (zB HB) hb); (try clear hb); (try clear ho0); obtain ⟨Ao21, co21, eo21⟩ := R_slice HO113.out; subst eo21; obtain ⟨Ao22, co22, eo22⟩ := R_slice HO116.out; subst eo22; (try clear A5)) | ((with_reducible refine gate_callee (f := 12) rfl ?_); refine goesL_ (some 14) rfl rfl Tryd.func12 (by kernel_rfl) rfl #[.slice Ao21 t111.length co21, .slice Ao22 t114.length co22] rfl zE ?_; (with_reducible refine (compose_Of.calls k _ _ t111 _ _ t114 t117 t118 _ ?side1 ?side2 ?side3 ?side4 ?side5 A6.out).mono ?_); (case side1 => exact zg HG HB); (case side2 => exact zI (R_reads' HO113.out).2.2); (case side3 => exact (R_reads' HO113.out).2.1); (case side4 => exact zI (R_reads' HO116.out).2.2); (case side5 => exact (R_reads' HO116.out).2.1); rintro e w23 ⟨v119, rfl, ho0, hb⟩; refine ⟨_, rfl, ?_⟩; have HO120 := Am (R_lower (zn (zn (zn (zn (zn ho0 HO103) HO106) HO110) HO113) HO116) (below_size (zB HB)));replace HO103 := Am (zr HO103 ho0 hb);replace HO106 := Am (zr HO106 ho0 hb);replace HO110 := Am (zr HO110 ho0 hb);replace HO113 := Am (zr HO113 ho0 hb);replace HO116 := Am (zr HO116 ho0 hb);replace HB := Am (below_step (zB HB) hb); (try clear hb); (try clear ho0); (try clear A6)) | (go_at_call 35; (with_reducible refine (epitomelaw09_spans.calls k (⟨#[107, 49, 100, 49, 112, 49, 107, 49]⟩ : ByteArray) t121 _ A9.out).mono ?_); rintro e w24 ⟨v122, rfl, ho0, hb⟩; have HO123 := Am (R_lower (zn (zn (zn (zn (zn (zn ho0 HO103) HO106) HO110) HO113) HO116) HO120) (below_size (zB HB)));replace HO103 := Am (zr HO103 ho0 hb);replace HO106 := Am (zr HO106 ho0 hb);replace HO110 := Am (zr HO110 ho0 hb);replace HO113 := Am (zr HO113 ho0 hb);replace HO116 := Am (zr HO116 ho0 hb);replace HO120 := Am (zr HO120 ho0 hb);replace HB := Am (below_step (zB HB) hb); (try clear hb); (try clear ho0); obtain ⟨Ao25, co25, eo25⟩ := R_slice HO110.out; subst eo25; obtain ⟨Ao26, co26, eo26⟩ := R_slice HO123.out; subst eo26; (try clear A9)) | (go_at_call 20; (with_reducible refine (epitomeref04_Same.calls k _ _ t107 _ _ t121 true _ ?side1 ?side2 ?side3 ?side4 A10.out).mono ?_); (case side1 => exact zI (R_reads' HO110.out).2.2); (case side2 => exact (R_reads' HO110.out).2.1); (case side3 => exact zI (R_reads' HO123.out).2.2); (case side4 => exact (R_reads' HO123.out).2.1); rintro e w' ⟨rfl, ⟨nd, rfl⟩⟩; (try clear A10)) | (go_at_call 35; (with_reducible refine (epitomelaw09_spans.calls k (⟨#[107, 49, 112, 49, 100, 49, 107, 49]⟩ : ByteArray) t125 _ A12.out).mono ?_); rintro e w27 ⟨v126, rfl, ho0, hb⟩; have HO127 := Am (R_lower (zn (zn (zn (zn (zn (zn (zn ho0 HO103) HO106) HO110) HO113) HO116) HO120) HO123) (below_size (zB HB)));replace HO103 := Am (zr HO103 ho0 hb);replace HO106 := Am (zr HO106 ho0 hb);replace HO110 := Am (zr HO110 ho0 hb);replace HO113 := Am (zr HO113 ho0 hb);replace HO116 := Am (zr HO116 ho0 hb);replace HO120 := Am (zr HO120 ho0 hb);replace HO123 := Am (zr HO123 ho0 hb);replace HB := Am (below_step (zB HB) hb); (try clear hb); (try clear ho0); obtain ⟨Ao28, co28, eo28⟩ := R_slice HO120.out; subst eo28; obtain ⟨Ao29, co29, eo29⟩ := R_slice HO127.out; subst eo29; (try clear A12)) | (go_at_call 20; (with_reducible refine (epitomeref04_Same.calls k _ _ t117 _ _ t125 t128 _ ?side1 ?side2 ?side3 ?side4 A13.out).mono ?_); (case side1 => exact zI (R_reads' HO120.out).2.2); (case side2 => exact (R_reads' HO120.out).2.1); (case side3 => exact zI (R_reads' HO127.out).2.2); (case side4 => exact (R_reads' HO127.out).2.1); rintro e w' ⟨rfl, ⟨nd, rfl⟩⟩; (try clear A13)))
    go_ret
    exact ⟨zF, (zB HB)⟩
   ·replace c11 := Bool.eq_false_iff.mpr c11
    subst c11
    have H1 : (some false) = some r := by rw [if_neg (show ¬ (false = true) by decide)] at H; exact H
    clear H;have H := H1
    clear H1;obtain rfl := Option.some.inj H;go_enter Tryd.func9, Tryd.ntmps9
    go_wp2_with (first | ((with_reducible refine gate_callee (f := 35) rfl ?_); refine goesL_ (some 6) rfl rfl Tryd.func35 (by kernel_rfl) rfl #[.string (⟨#[107, 50, 112, 49, 107, 49]⟩ : ByteArray)] rfl zE ?_; (with_reducible refine (epitomelaw09_spans.calls k (⟨#[107, 50, 112, 49, 107, 49]⟩ : ByteArray) t101 _ A1.out).mono ?_); rintro e w30 ⟨v102, rfl, ho0, hb⟩; refine ⟨_, rfl, ?_⟩; have HO103 := Am (R_lower ho0 (below_size (zB HB)));replace HB := Am (below_step (zB HB) hb); (try clear hb); (try clear ho0); (try clear A1)) | ((with_reducible refine gate_callee (f := 35) rfl ?_); refine goesL_ (some 7) rfl rfl Tryd.func35 (by kernel_rfl) rfl #[.string (⟨#[107, 49, 100, 49, 107, 50]⟩ : ByteArray)] rfl zE ?_; (with_reducible refine (epitomelaw09_spans.calls k (⟨#[107, 49, 100, 49, 107, 50]⟩ : ByteArray) t104 _ A2.out).mono ?_); rintro e w31 ⟨v105, rfl, ho0, hb⟩; refine ⟨_, rfl, ?_⟩; have HO106 := Am (R_lower (zn ho0 HO103) (below_size (zB HB)));replace HO103 := Am (zr HO103 ho0 hb);replace HB := Am (below_step (zB HB) hb); (try clear hb); (try clear ho0); obtain ⟨Ao32, co32, eo32⟩ := R_slice HO103.out; subst eo32; obtain ⟨Ao33, co33, eo33⟩ := R_slice HO106.out; subst eo33; (try clear A2)) | ((with_reducible refine gate_callee (f := 12) rfl ?_); refine goesL_ (some 8) rfl rfl Tryd.func12 (by kernel_rfl) rfl #[.slice Ao32 t101.length co32, .slice Ao33 t104.length co33] rfl zE ?_; (with_reducible refine (compose_Of.calls k _ _ t101 _ _ t104 t107 t108 _ ?side1 ?side2 ?side3 ?side4 ?side5 A3.out).mono ?_); (case side1 => exact zg HG HB); (case side2 => exact zI (R_reads' HO103.out).2.2); (case side3 => exact (R_reads' HO103.out).2.1); (case side4 => exact zI (R_reads' HO106.out).2.2); (case side5 => exact (R_reads' HO106.out).2.1); rintro e w34 ⟨v109, rfl, ho0, hb⟩; refine ⟨_, rfl, ?_⟩; have HO110 := Am (R_lower (zn (zn ho0 HO103) HO106) (below_size (zB HB)));replace HO103 := Am (zr HO103 ho0 hb);replace HO106 := Am (zr HO106 ho0 hb);replace HB := Am (below_step (zB HB) hb); (try clear hb); (try clear ho0); (try clear A3)) | ((with_reducible refine gate_callee (f := 35) rfl ?_); refine goesL_ (some 12) rfl rfl Tryd.func35 (by kernel_rfl) rfl #[.string (⟨#[107, 49, 100, 49, 107, 49]⟩ : ByteArray)] rfl zE ?_; (with_reducible refine (epitomelaw09_spans.calls k (⟨#[107, 49, 100, 49, 107, 49]⟩ : ByteArray) t111 _ A4.out).mono ?_); rintro e w35 ⟨v112, rfl, ho0, hb⟩; refine ⟨_, rfl, ?_⟩; have HO113 := Am (R_lower (zn (zn (zn ho0 HO103) HO106) HO110) (below_size (zB HB)));replace HO103 := Am (zr HO103 ho0 hb);replace HO106 := Am (zr HO106 ho0 hb);replace HO110 := Am (zr HO110 ho0 hb);replace HB := Am (below_step (zB HB) hb); (try clear hb); (try clear ho0); (try clear A4)) | ((with_reducible refine gate_callee (f := 35) rfl ?_); refine goesL_ (some 13) rfl rfl Tryd.func35 (by kernel_rfl) rfl #[.string (⟨#[107, 49, 112, 49, 107, 49]⟩ : ByteArray)] rfl zE ?_; (with_reducible refine (epitomelaw09_spans.calls k (⟨#[107, 49, 112, 49, 107, 49]⟩ : ByteArray) t114 _ A5.out).mono ?_); rintro e w36 ⟨v115, rfl, ho0, hb⟩; refine ⟨_, rfl, ?_⟩; have HO116 := Am (R_lower (zn (zn (zn (zn ho0 HO103) HO106) HO110) HO113) (below_size (zB HB)));replace HO103 := Am (zr HO103 ho0 hb);replace HO106 := Am (zr HO106 ho0 hb);replace HO110 := Am (zr HO110 ho0 hb);replace HO113 := Am (zr HO113 ho0 hb);replace HB := Am (below_step (zB HB) hb); (try clear hb); (try clear ho0); obtain ⟨Ao37, co37, eo37⟩ := R_slice HO113.out; subst eo37; obtain ⟨Ao38, co38, eo38⟩ := R_slice HO116.out; subst eo38; (try clear A5)) | ((with_reducible refine gate_callee (f := 12) rfl ?_); refine goesL_ (some 14) rfl rfl Tryd.func12 (by kernel_rfl) rfl #[.slice Ao37 t111.length co37, .slice Ao38 t114.length co38] rfl zE ?_; (with_reducible refine (compose_Of.calls k _ _ t111 _ _ t114 t117 t118 _ ?side1 ?side2 ?side3 ?side4 ?side5 A6.out).mono ?_); (case side1 => exact zg HG HB); (case side2 => exact zI (R_reads' HO113.out).2.2); (case side3 => exact (R_reads' HO113.out).2.1); (case side4 => exact zI (R_reads' HO116.out).2.2); (case side5 => exact (R_reads' HO116.out).2.1); rintro e w39 ⟨v119, rfl, ho0, hb⟩; refine ⟨_, rfl, ?_⟩; have HO120 := Am (R_lower (zn (zn (zn (zn (zn ho0 HO103) HO106) HO110) HO113) HO116) (below_size (zB HB)));replace HO103 := Am (zr HO103 ho0 hb);replace HO106 := Am (zr HO106 ho0 hb);replace HO110 := Am (zr HO110 ho0 hb);replace HO113 := Am (zr HO113 ho0 hb);replace HO116 := Am (zr HO116 ho0 hb);replace HB := Am (below_step (zB HB) hb); (try clear hb); (try clear ho0); (try clear A6)) | (go_at_call 35; (with_reducible refine (epitomelaw09_spans.calls k (⟨#[107, 49, 100, 49, 112, 49, 107, 49]⟩ : ByteArray) t121 _ A9.out).mono ?_); rintro e w40 ⟨v122, rfl, ho0, hb⟩; have HO123 := Am (R_lower (zn (zn (zn (zn (zn (zn ho0 HO103) HO106) HO110) HO113) HO116) HO120) (below_size (zB HB)));replace HO103 := Am (zr HO103 ho0 hb);replace HO106 := Am (zr HO106 ho0 hb);replace HO110 := Am (zr HO110 ho0 hb);replace HO113 := Am (zr HO113 ho0 hb);replace HO116 := Am (zr HO116 ho0 hb);replace HO120 := Am (zr HO120 ho0 hb);replace HB := Am (below_step (zB HB) hb); (try clear hb); (try clear ho0); obtain ⟨Ao41, co41, eo41⟩ := R_slice HO110.out; subst eo41; obtain ⟨Ao42, co42, eo42⟩ := R_slice HO123.out; subst eo42; (try clear A9)) | (go_at_call 20; (with_reducible refine (epitomeref04_Same.calls k _ _ t107 _ _ t121 false _ ?side1 ?side2 ?side3 ?side4 A10.out).mono ?_); (case side1 => exact zI (R_reads' HO110.out).2.2); (case side2 => exact (R_reads' HO110.out).2.1); (case side3 => exact zI (R_reads' HO123.out).2.2); (case side4 => exact (R_reads' HO123.out).2.1); rintro e w' ⟨rfl, ⟨nd, rfl⟩⟩))
    go_ret
    exact ⟨zF, (zB HB)⟩
  ·rw [if_neg c8] at H;have c8b0 : (t118 == 0) = false := beq_eq_false_iff_ne.mpr c8
   have c8b1 : (t118 != 0) = true := bne_iff_ne.mpr c8
   obtain rfl := Option.some.inj H;go_enter Tryd.func9, Tryd.ntmps9
   go_wp2_with (first | ((with_reducible refine gate_callee (f := 35) rfl ?_); refine goesL_ (some 6) rfl rfl Tryd.func35 (by kernel_rfl) rfl #[.string (⟨#[107, 50, 112, 49, 107, 49]⟩ : ByteArray)] rfl zE ?_; (with_reducible refine (epitomelaw09_spans.calls k (⟨#[107, 50, 112, 49, 107, 49]⟩ : ByteArray) t101 _ A1.out).mono ?_); rintro e w43 ⟨v102, rfl, ho0, hb⟩; refine ⟨_, rfl, ?_⟩; have HO103 := Am (R_lower ho0 (below_size (zB HB)));replace HB := Am (below_step (zB HB) hb); (try clear hb); (try clear ho0); (try clear A1)) | ((with_reducible refine gate_callee (f := 35) rfl ?_); refine goesL_ (some 7) rfl rfl Tryd.func35 (by kernel_rfl) rfl #[.string (⟨#[107, 49, 100, 49, 107, 50]⟩ : ByteArray)] rfl zE ?_; (with_reducible refine (epitomelaw09_spans.calls k (⟨#[107, 49, 100, 49, 107, 50]⟩ : ByteArray) t104 _ A2.out).mono ?_); rintro e w44 ⟨v105, rfl, ho0, hb⟩; refine ⟨_, rfl, ?_⟩; have HO106 := Am (R_lower (zn ho0 HO103) (below_size (zB HB)));replace HO103 := Am (zr HO103 ho0 hb);replace HB := Am (below_step (zB HB) hb); (try clear hb); (try clear ho0); obtain ⟨Ao45, co45, eo45⟩ := R_slice HO103.out; subst eo45; obtain ⟨Ao46, co46, eo46⟩ := R_slice HO106.out; subst eo46; (try clear A2)) | ((with_reducible refine gate_callee (f := 12) rfl ?_); refine goesL_ (some 8) rfl rfl Tryd.func12 (by kernel_rfl) rfl #[.slice Ao45 t101.length co45, .slice Ao46 t104.length co46] rfl zE ?_; (with_reducible refine (compose_Of.calls k _ _ t101 _ _ t104 t107 t108 _ ?side1 ?side2 ?side3 ?side4 ?side5 A3.out).mono ?_); (case side1 => exact zg HG HB); (case side2 => exact zI (R_reads' HO103.out).2.2); (case side3 => exact (R_reads' HO103.out).2.1); (case side4 => exact zI (R_reads' HO106.out).2.2); (case side5 => exact (R_reads' HO106.out).2.1); rintro e w47 ⟨v109, rfl, ho0, hb⟩; refine ⟨_, rfl, ?_⟩; have HO110 := Am (R_lower (zn (zn ho0 HO103) HO106) (below_size (zB HB)));replace HO103 := Am (zr HO103 ho0 hb);replace HO106 := Am (zr HO106 ho0 hb);replace HB := Am (below_step (zB HB) hb); (try clear hb); (try clear ho0); (try clear A3)) | ((with_reducible refine gate_callee (f := 35) rfl ?_); refine goesL_ (some 12) rfl rfl Tryd.func35 (by kernel_rfl) rfl #[.string (⟨#[107, 49, 100, 49, 107, 49]⟩ : ByteArray)] rfl zE ?_; (with_reducible refine (epitomelaw09_spans.calls k (⟨#[107, 49, 100, 49, 107, 49]⟩ : ByteArray) t111 _ A4.out).mono ?_); rintro e w48 ⟨v112, rfl, ho0, hb⟩; refine ⟨_, rfl, ?_⟩; have HO113 := Am (R_lower (zn (zn (zn ho0 HO103) HO106) HO110) (below_size (zB HB)));replace HO103 := Am (zr HO103 ho0 hb);replace HO106 := Am (zr HO106 ho0 hb);replace HO110 := Am (zr HO110 ho0 hb);replace HB := Am (below_step (zB HB) hb); (try clear hb); (try clear ho0); (try clear A4)) | ((with_reducible refine gate_callee (f := 35) rfl ?_); refine goesL_ (some 13) rfl rfl Tryd.func35 (by kernel_rfl) rfl #[.string (⟨#[107, 49, 112, 49, 107, 49]⟩ : ByteArray)] rfl zE ?_; (with_reducible refine (epitomelaw09_spans.calls k (⟨#[107, 49, 112, 49, 107, 49]⟩ : ByteArray) t114 _ A5.out).mono ?_); rintro e w49 ⟨v115, rfl, ho0, hb⟩; refine ⟨_, rfl, ?_⟩; have HO116 := Am (R_lower (zn (zn (zn (zn ho0 HO103) HO106) HO110) HO113) (below_size (zB HB)));replace HO103 := Am (zr HO103 ho0 hb);replace HO106 := Am (zr HO106 ho0 hb);replace HO110 := Am (zr HO110 ho0 hb);replace HO113 := Am (zr HO113 ho0 hb);replace HB := Am (below_step (zB HB) hb); (try clear hb); (try clear ho0); obtain ⟨Ao50, co50, eo50⟩ := R_slice HO113.out; subst eo50; obtain ⟨Ao51, co51, eo51⟩ := R_slice HO116.out; subst eo51; (try clear A5)) | ((with_reducible refine gate_callee (f := 12) rfl ?_); refine goesL_ (some 14) rfl rfl Tryd.func12 (by kernel_rfl) rfl #[.slice Ao50 t111.length co50, .slice Ao51 t114.length co51] rfl zE ?_; (with_reducible refine (compose_Of.calls k _ _ t111 _ _ t114 t117 t118 _ ?side1 ?side2 ?side3 ?side4 ?side5 A6.out).mono ?_); (case side1 => exact zg HG HB); (case side2 => exact zI (R_reads' HO113.out).2.2); (case side3 => exact (R_reads' HO113.out).2.1); (case side4 => exact zI (R_reads' HO116.out).2.2); (case side5 => exact (R_reads' HO116.out).2.1); rintro e w52 ⟨v119, rfl, ho0, hb⟩; refine ⟨_, rfl, ?_⟩; have HO120 := Am (R_lower (zn (zn (zn (zn (zn ho0 HO103) HO106) HO110) HO113) HO116) (below_size (zB HB)));replace HO103 := Am (zr HO103 ho0 hb);replace HO106 := Am (zr HO106 ho0 hb);replace HO110 := Am (zr HO110 ho0 hb);replace HO113 := Am (zr HO113 ho0 hb);replace HO116 := Am (zr HO116 ho0 hb);replace HB := Am (below_step (zB HB) hb); (try clear hb); (try clear ho0); (try clear A6)))
   go_ret
   exact ⟨zF, (zB HB)⟩
 ·rw [if_neg c7] at H;have c7b0 : (t108 == 0) = false := beq_eq_false_iff_ne.mpr c7
  have c7b1 : (t108 != 0) = true := bne_iff_ne.mpr c7
  obtain rfl := Option.some.inj H;go_enter Tryd.func9, Tryd.ntmps9
  go_wp2_with (first | ((with_reducible refine gate_callee (f := 35) rfl ?_); refine goesL_ (some 6) rfl rfl Tryd.func35 (by kernel_rfl) rfl #[.string (⟨#[107, 50, 112, 49, 107, 49]⟩ : ByteArray)] rfl zE ?_; (with_reducible refine (epitomelaw09_spans.calls k (⟨#[107, 50, 112, 49, 107, 49]⟩ : ByteArray) t101 _ A1.out).mono ?_); rintro e w53 ⟨v102, rfl, ho0, hb⟩; refine ⟨_, rfl, ?_⟩; have HO103 := Am (R_lower ho0 (below_size (zB HB)));replace HB := Am (below_step (zB HB) hb); (try clear hb); (try clear ho0); (try clear A1)) | ((with_reducible refine gate_callee (f := 35) rfl ?_); refine goesL_ (some 7) rfl rfl Tryd.func35 (by kernel_rfl) rfl #[.string (⟨#[107, 49, 100, 49, 107, 50]⟩ : ByteArray)] rfl zE ?_; (with_reducible refine (epitomelaw09_spans.calls k (⟨#[107, 49, 100, 49, 107, 50]⟩ : ByteArray) t104 _ A2.out).mono ?_); rintro e w54 ⟨v105, rfl, ho0, hb⟩; refine ⟨_, rfl, ?_⟩; have HO106 := Am (R_lower (zn ho0 HO103) (below_size (zB HB)));replace HO103 := Am (zr HO103 ho0 hb);replace HB := Am (below_step (zB HB) hb); (try clear hb); (try clear ho0); obtain ⟨Ao55, co55, eo55⟩ := R_slice HO103.out; subst eo55; obtain ⟨Ao56, co56, eo56⟩ := R_slice HO106.out; subst eo56; (try clear A2)) | ((with_reducible refine gate_callee (f := 12) rfl ?_); refine goesL_ (some 8) rfl rfl Tryd.func12 (by kernel_rfl) rfl #[.slice Ao55 t101.length co55, .slice Ao56 t104.length co56] rfl zE ?_; (with_reducible refine (compose_Of.calls k _ _ t101 _ _ t104 t107 t108 _ ?side1 ?side2 ?side3 ?side4 ?side5 A3.out).mono ?_); (case side1 => exact zg HG HB); (case side2 => exact zI (R_reads' HO103.out).2.2); (case side3 => exact (R_reads' HO103.out).2.1); (case side4 => exact zI (R_reads' HO106.out).2.2); (case side5 => exact (R_reads' HO106.out).2.1); rintro e w57 ⟨v109, rfl, ho0, hb⟩; refine ⟨_, rfl, ?_⟩; have HO110 := Am (R_lower (zn (zn ho0 HO103) HO106) (below_size (zB HB)));replace HO103 := Am (zr HO103 ho0 hb);replace HO106 := Am (zr HO106 ho0 hb);replace HB := Am (below_step (zB HB) hb); (try clear hb); (try clear ho0); (try clear A3)) | ((with_reducible refine gate_callee (f := 35) rfl ?_); refine goesL_ (some 12) rfl rfl Tryd.func35 (by kernel_rfl) rfl #[.string (⟨#[107, 49, 100, 49, 107, 49]⟩ : ByteArray)] rfl zE ?_; (with_reducible refine (epitomelaw09_spans.calls k (⟨#[107, 49, 100, 49, 107, 49]⟩ : ByteArray) t111 _ A4.out).mono ?_); rintro e w58 ⟨v112, rfl, ho0, hb⟩; refine ⟨_, rfl, ?_⟩; have HO113 := Am (R_lower (zn (zn (zn ho0 HO103) HO106) HO110) (below_size (zB HB)));replace HO103 := Am (zr HO103 ho0 hb);replace HO106 := Am (zr HO106 ho0 hb);replace HO110 := Am (zr HO110 ho0 hb);replace HB := Am (below_step (zB HB) hb); (try clear hb); (try clear ho0); (try clear A4)) | ((with_reducible refine gate_callee (f := 35) rfl ?_); refine goesL_ (some 13) rfl rfl Tryd.func35 (by kernel_rfl) rfl #[.string (⟨#[107, 49, 112, 49, 107, 49]⟩ : ByteArray)] rfl zE ?_; (with_reducible refine (epitomelaw09_spans.calls k (⟨#[107, 49, 112, 49, 107, 49]⟩ : ByteArray) t114 _ A5.out).mono ?_); rintro e w59 ⟨v115, rfl, ho0, hb⟩; refine ⟨_, rfl, ?_⟩; have HO116 := Am (R_lower (zn (zn (zn (zn ho0 HO103) HO106) HO110) HO113) (below_size (zB HB)));replace HO103 := Am (zr HO103 ho0 hb);replace HO106 := Am (zr HO106 ho0 hb);replace HO110 := Am (zr HO110 ho0 hb);replace HO113 := Am (zr HO113 ho0 hb);replace HB := Am (below_step (zB HB) hb); (try clear hb); (try clear ho0); obtain ⟨Ao60, co60, eo60⟩ := R_slice HO113.out; subst eo60; obtain ⟨Ao61, co61, eo61⟩ := R_slice HO116.out; subst eo61; (try clear A5)) | ((with_reducible refine gate_callee (f := 12) rfl ?_); refine goesL_ (some 14) rfl rfl Tryd.func12 (by kernel_rfl) rfl #[.slice Ao60 t111.length co60, .slice Ao61 t114.length co61] rfl zE ?_; (with_reducible refine (compose_Of.calls k _ _ t111 _ _ t114 t117 t118 _ ?side1 ?side2 ?side3 ?side4 ?side5 A6.out).mono ?_); (case side1 => exact zg HG HB); (case side2 => exact zI (R_reads' HO113.out).2.2); (case side3 => exact (R_reads' HO113.out).2.1); (case side4 => exact zI (R_reads' HO116.out).2.2); (case side5 => exact (R_reads' HO116.out).2.1); rintro e w62 ⟨v119, rfl, ho0, hb⟩; refine ⟨_, rfl, ?_⟩; have HO120 := Am (R_lower (zn (zn (zn (zn (zn ho0 HO103) HO106) HO110) HO113) HO116) (below_size (zB HB)));replace HO103 := Am (zr HO103 ho0 hb);replace HO106 := Am (zr HO106 ho0 hb);replace HO110 := Am (zr HO110 ho0 hb);replace HO113 := Am (zr HO113 ho0 hb);replace HO116 := Am (zr HO116 ho0 hb);replace HB := Am (below_step (zB HB) hb); (try clear hb); (try clear ho0); (try clear A6)))
  go_ret
  exact ⟨zF, (zB HB)⟩
end Go.Proofs.YtekjfodfedpioaaDoor.F
end
section
namespace Go.Proofs.YtekjfodfedpioaaDoor.F
open Go.RowKit Go.Proofs.YtekjfodfedpioaaDoorW.PrintWords Go.Proofs.YtekjfodfedpioaaDoorW.PrintLast Go.Proofs.YtekjfodfedpioaaDoorW.PrintMore
attribute [local go_sem] max2_int min2_int max_two min_two max_three min_three max_four min_four cell_setCell_isSome
set_option linter.unusedVariables false
set_option linter.unusedSimpArgs false
open Kd
def epitomeref01_size.j0 : Nat → Int → Bool → Option (Int)
  | 0, _, _ => none
  | k + 1, x0, x16 => if x16 = true then (some 0) else (if x0 < 128 then (some 1) else (if x0 < 2048 then (some 2) else (if x0 < 65536 then (some 3) else (some 4))))
def epitomeref01_size.f (k : Nat) (a0 : Int) : Option (Int) := if a0 < 0 then (epitomeref01_size.j0 k a0 true) else (if a0 > 1114111 then (epitomeref01_size.j0 k a0 true) else (if a0 ≥ 55296 then (epitomeref01_size.j0 k a0 (decide (a0 ≤ 57343))) else (epitomeref01_size.j0 k a0 false)))
theorem epitomeref01_size.mono_l : ∀ k, (∀ y0 y1, LeO (epitomeref01_size.j0 k y0 y1) (epitomeref01_size.j0 (k + 1) y0 y1))
  | 0 => fun _ _ r h => by simp [epitomeref01_size.j0] at h
  | k + 1 => by
    have ih0 := epitomeref01_size.mono_l k
    · intro y0 y1
      unfold epitomeref01_size.j0
      repeat' first
      | (with_reducible exact ih0 _ _)
      | (with_reducible exact LeO.refl _)
      | (with_reducible exact LeO.none _)
      | (with_reducible refine LeO.ite ?_ ?_)
      | (with_reducible refine LeO.bind ?_ (fun _ => ?_))
      | exact ih0 _ _
      | exact LeO.none _
      | refine LeO.ite ?_ ?_
      | refine LeO.bind ?_ (fun _ => ?_)
theorem epitomeref01_size.mono : ∀ a0 k, LeO (epitomeref01_size.f k a0) (epitomeref01_size.f (k + 1) a0) := by
  intro a0 k
  have ih0 := epitomeref01_size.mono_l k
  unfold epitomeref01_size.f
  repeat' first
      | (with_reducible exact ih0 _ _)
      | (with_reducible exact LeO.refl _)
      | (with_reducible exact LeO.none _)
      | (with_reducible refine LeO.ite ?_ ?_)
      | (with_reducible refine LeO.bind ?_ (fun _ => ?_))
      | exact ih0 _ _
      | exact LeO.none _
      | refine LeO.ite ?_ ?_
      | refine LeO.bind ?_ (fun _ => ?_)
set_option maxHeartbeats 40000000 in
set_option maxRecDepth 100000 in
theorem epitomeref01_size.calls (k : Nat) (a0 : Int) (r : Int) (w : World) (h : epitomeref01_size.f k a0 = some r) :
  Calls Tryd.prog 88 #[.int .i64 a0] w fun e w' => e = .returned (.int .i64 r) ∧ Drawn0 w w' := by
 have H : (if a0 < 0 then (epitomeref01_size.j0 k a0 true) else (if a0 > 1114111 then (epitomeref01_size.j0 k a0 true) else (if a0 ≥ 55296 then (epitomeref01_size.j0 k a0 (decide (a0 ≤ 57343))) else (epitomeref01_size.j0 k a0 false)))) = some r := h
 clear h;have HC2 := Am H;clear H;go_enter Tryd.func88, Tryd.ntmps88
 go_upto_region 1 with (fail)
 go_cut [16] (fun v16 wc => ∃ (kq : Nat) (x16_1 : Bool), v16 = .bool x16_1 ∧ Aside0 (epitomeref01_size.j0 kq a0 x16_1 = some r) ∧ Aside0 (kq ≤ k) ∧ Drawn0 w wc)
 case first =>
  have H := HC2.out;clear HC2;by_cases c3 : a0 < 0
  ·rw [if_pos c3] at H;have c3b0 : decide (a0 < 0) = true := decide_eq_true c3
   clear c3;(first | rw [c3b0] | (simp only [i64_w, i32_w]; rw [c3b0]) | skip)
   have H' := Am H
   clear H;go_wp2
   go_meet
   case rel => exact ⟨_, (true), zG, H', ⟨by first | omega | exact Nat.le_refl _⟩, zD⟩
  ·rw [if_neg c3] at H;have c3b0 : decide (a0 < 0) = false := decide_eq_false c3
   clear c3;(first | rw [c3b0] | (simp only [i64_w, i32_w]; rw [c3b0]) | skip)
   by_cases c4 : a0 > 1114111
   ·rw [if_pos c4] at H;have c4b0 : decide (1114111 < a0) = true := decide_eq_true c4
    clear c4;have H' := Am H
    clear H;go_wp2
    go_meet
    case rel => exact ⟨_, (true), zG, H', ⟨by first | omega | exact Nat.le_refl _⟩, zD⟩
   ·rw [if_neg c4] at H;have c4b0 : decide (1114111 < a0) = false := decide_eq_false c4
    clear c4;by_cases c5 : a0 ≥ 55296
    ·rw [if_pos c5] at H;have c5b0 : decide (55296 ≤ a0) = true := decide_eq_true c5
     clear c5;have H' := Am H
     clear H;go_wp2
     go_meet
     case rel => exact ⟨_, (decide (a0 ≤ 57343)), zG, H', ⟨by first | omega | exact Nat.le_refl _⟩, zD⟩
    ·rw [if_neg c5] at H;have c5b0 : decide (55296 ≤ a0) = false := decide_eq_false c5
     clear c5;have H' := Am H
     clear H;go_wp2
     go_meet
     case rel => exact ⟨_, (false), zG, H', ⟨by first | omega | exact Nat.le_refl _⟩, zD⟩
 case rest =>
  clear HC2;(try clear p2);(try clear c3);(try clear c3b0);(try clear c4);(try clear c4b0);(try clear c5);(try clear c5b0);obtain ⟨kq, x16_1, rfl, HA, HJ1, ⟨mc1, rfl⟩⟩ := hcut
  cases kq with
  | zero => exact absurd HA.out (by simp [epitomeref01_size.j0])
  | succ kj1 =>
   have H := HA.out;clear HA;simp only [epitomeref01_size.j0] at H
   by_cases c6 : x16_1 = true
   ·subst c6
    have H1 : (some 0) = some r := by rw [if_pos rfl] at H; exact H
    clear H;have H := H1
    clear H1;obtain rfl := Option.some.inj H;go_wp2
    go_ret
    exact ⟨zG, zD⟩
   ·replace c6 := Bool.eq_false_iff.mpr c6
    subst c6
    have H1 : (if a0 < 128 then (some 1) else (if a0 < 2048 then (some 2) else (if a0 < 65536 then (some 3) else (some 4)))) = some r := by rw [if_neg (show ¬ (false = true) by decide)] at H; exact H
    clear H;have H := H1
    clear H1;by_cases c7 : a0 < 128
    ·rw [if_pos c7] at H;have c7b0 : decide (a0 < 128) = true := decide_eq_true c7
     clear c7;obtain rfl := Option.some.inj H;go_wp2
     go_ret
     exact ⟨zG, zD⟩
    ·rw [if_neg c7] at H;have c7b0 : decide (a0 < 128) = false := decide_eq_false c7
     clear c7;by_cases c8 : a0 < 2048
     ·rw [if_pos c8] at H;have c8b0 : decide (a0 < 2048) = true := decide_eq_true c8
      clear c8;obtain rfl := Option.some.inj H;go_wp2
      go_ret
      exact ⟨zG, zD⟩
     ·rw [if_neg c8] at H;have c8b0 : decide (a0 < 2048) = false := decide_eq_false c8
      clear c8;by_cases c9 : a0 < 65536
      ·rw [if_pos c9] at H;have c9b0 : decide (a0 < 65536) = true := decide_eq_true c9
       clear c9;obtain rfl := Option.some.inj H;go_wp2
       go_ret
       exact ⟨zG, zD⟩
      ·rw [if_neg c9] at H;have c9b0 : decide (a0 < 65536) = false := decide_eq_false c9
       clear c9;obtain rfl := Option.some.inj H;go_wp2
       go_ret
       exact ⟨zG, zD⟩
end Go.Proofs.YtekjfodfedpioaaDoor.F
end
section
namespace Go.Proofs.YtekjfodfedpioaaDoor.F
open Go.RowKit Go.Proofs.YtekjfodfedpioaaDoorW.PrintWords Go.Proofs.YtekjfodfedpioaaDoorW.PrintLast Go.Proofs.YtekjfodfedpioaaDoorW.PrintMore
attribute [local go_sem] max2_int min2_int max_two min_two max_three min_three max_four min_four cell_setCell_isSome
set_option linter.unusedVariables false
set_option linter.unusedSimpArgs false
open Kd
def epitomeref01_Of.l0 : Nat → List Int → List Int → Int → Option (ByteArray)
  | 0, _, _, _ => none
  | k + 1, x0, x3, x4 => if x4 < (x0.length : Int) then (if 0 ≤ x4 then ((epitomeref01_size.f k (wrap64 (rd x0 x4))).bind fun t105 => (if t105 = 1 then (if x3.length < 140737488355328 then (epitomeref01_Of.l0 k x0 (x3 ++ [(wrap64 (rd x0 x4)) % 256]) (wrap64 (x4 + 1))) else (none)) else (if t105 = 2 then ((some (([(wrap64 (192 + (wrap64 (Int.tdiv (wrap64 (rd x0 x4)) 64)))) % 256, (wrap64 (128 + (Int.tmod (wrap64 (rd x0 x4)) 64))) % 256] : List Int) : List Int)).bind fun y109 => (if x3.length + y109.length < 140737488355328 then (epitomeref01_Of.l0 k x0 (x3 ++ y109) (wrap64 (x4 + 1))) else (none))) else (if t105 = 3 then ((some (([(wrap64 (224 + (wrap64 (Int.tdiv (wrap64 (rd x0 x4)) 4096)))) % 256, (wrap64 (128 + (Int.tmod (wrap64 (Int.tdiv (wrap64 (rd x0 x4)) 64)) 64))) % 256, (wrap64 (128 + (Int.tmod (wrap64 (rd x0 x4)) 64))) % 256] : List Int) : List Int)).bind fun y115 => (if x3.length + y115.length < 140737488355328 then (epitomeref01_Of.l0 k x0 (x3 ++ y115) (wrap64 (x4 + 1))) else (none))) else (if t105 = 4 then ((some (([(wrap64 (240 + (wrap64 (Int.tdiv (wrap64 (rd x0 x4)) 262144)))) % 256, (wrap64 (128 + (Int.tmod (wrap64 (Int.tdiv (wrap64 (rd x0 x4)) 4096)) 64))) % 256, (wrap64 (128 + (Int.tmod (wrap64 (Int.tdiv (wrap64 (rd x0 x4)) 64)) 64))) % 256, (wrap64 (128 + (Int.tmod (wrap64 (rd x0 x4)) 64))) % 256] : List Int) : List Int)).bind fun y121 => (if x3.length + y121.length < 140737488355328 then (epitomeref01_Of.l0 k x0 (x3 ++ y121) (wrap64 (x4 + 1))) else (none))) else (epitomeref01_Of.l0 k x0 x3 (wrap64 (x4 + 1)))))))) else (none)) else (some (strOfNums x3))
def epitomeref01_Of.f (k : Nat) (l0 : List Int) : Option (ByteArray) := epitomeref01_Of.l0 k l0 (([] : List Int)) 0
theorem epitomeref01_Of.mono_l : ∀ k, (∀ y0 y1 y2, LeO (epitomeref01_Of.l0 k y0 y1 y2) (epitomeref01_Of.l0 (k + 1) y0 y1 y2))
  | 0 => fun _ _ _ r h => by simp [epitomeref01_Of.l0] at h
  | k + 1 => by
    have ih0 := epitomeref01_Of.mono_l k
    · intro y0 y1 y2
      unfold epitomeref01_Of.l0
      repeat' first
      | (with_reducible exact ih0 _ _ _)
      | (with_reducible exact epitomeref01_size.mono _ _)
      | (with_reducible exact LeO.refl _)
      | (with_reducible exact LeO.none _)
      | (with_reducible refine LeO.ite ?_ ?_)
      | (with_reducible refine LeO.bind ?_ (fun _ => ?_))
      | exact ih0 _ _ _
      | exact epitomeref01_size.mono _ _
      | exact LeO.none _
      | refine LeO.ite ?_ ?_
      | refine LeO.bind ?_ (fun _ => ?_)
theorem epitomeref01_Of.mono : ∀ a0 k, LeO (epitomeref01_Of.f k a0) (epitomeref01_Of.f (k + 1) a0) := by
  intro a0 k
  have ih0 := epitomeref01_Of.mono_l k
  unfold epitomeref01_Of.f
  repeat' first
      | (with_reducible exact ih0 _ _ _)
      | (with_reducible exact epitomeref01_size.mono _ _)
      | (with_reducible exact LeO.refl _)
      | (with_reducible exact LeO.none _)
      | (with_reducible refine LeO.ite ?_ ?_)
      | (with_reducible refine LeO.bind ?_ (fun _ => ?_))
      | exact ih0 _ _ _
      | exact epitomeref01_size.mono _ _
      | exact LeO.none _
      | refine LeO.ite ?_ ?_
      | refine LeO.bind ?_ (fun _ => ?_)
set_option maxHeartbeats 40000000 in
set_option maxRecDepth 100000 in
theorem epitomeref01_Of.calls (k : Nat) (A0 : Option Addr) (c0 : Nat) (l0 : List Int) (r : ByteArray) (w : World) (hr0 : Kd.C (Kd.int .i32) w A0 l0.length l0) (hc0 : l0.length ≤ c0) (h : epitomeref01_Of.f k l0 = some r) :
  Calls Tryd.prog 65 #[.slice A0 l0.length c0] w fun e w' => e = .returned (.string r) ∧ Below w.heap.size w w' := by
 have HR0 := Am hr0;have HC0 := Am hc0;clear hr0 hc0;have HB := Am (Below.refl w.heap.size w)
 have H : (epitomeref01_Of.l0 k l0 (([] : List Int)) 0) = some r := h
 clear h;obtain ⟨y101, hy101⟩ : ∃ y_ : List Int, y_ = (([] : List Int)) := ⟨_, rfl⟩
 replace H : (epitomeref01_Of.l0 k l0 y101 0) = some r := by first | (rw [hy101]; with_reducible exact H) | (have H2_ := (Option.bind_some _ _).symm.trans H; rw [hy101]; with_reducible exact H2_) | (have H2_ := (Option.bind_some _ _).symm.trans H; with_reducible exact H2_) | with_reducible exact H | (rw [hy101]; exact H) | exact H
 have Ny101 := Am hy101;clear hy101;have H' := Am H
 clear H;go_enter Tryd.func65, Tryd.ntmps65
 go_wp2_with (first | ((with_reducible refine gate_dst (N := 6) rfl ?_); refine R_lit (Kd.int .u8) _ 5 ?hg (N := 6) ?hd (xs := ([] : List Int)) (inner := []) (ok := fun _ => True) (okp := fun _ => True) ?hr ?hp (fun _ hk => hk) trivial (Below.refl _ _) (Nat.le_refl _) (by simp) ?_; (case hd => rfl); (case hg => rfl); (case hr => first | (go_simp; done) | (go_simp; rfl)); (case hp => exact (Reps.none _ _)); intro v102 w2 ho3 hb hg_ hnew_; clear hg_ hnew_; (first | rw [← Ny101.out] at ho3 | (simp only [Int.reduceToNat] at ho3; rw [← Ny101.out] at ho3)); have HO103 := Am (R_lower ho3 (below_size (zB HB)));replace HB := Am (below_step (zB HB) hb); clear hb ho3))
 go_loopg [3, 4] k (fun kq v3 v4 w' => ∃ (x3_1 : List Int) (x4_1 : Int), v4 = .int .i64 x4_1 ∧ Aside0 (epitomeref01_Of.l0 kq l0 x3_1 x4_1 = some r) ∧ Aside0 (kq ≤ k) ∧ Aside0 (Kd.R (Kd.int .u8) 5 w' w.heap.size (fun _ => True) v3 x3_1) ∧ Aside0 (Below w.heap.size w w'))
 case atStart => exact ⟨(y101), (0), zG, H', ⟨Nat.le_refl _⟩, ⟨(zR HO103)⟩, ⟨(zB HB)⟩⟩
 case round =>
  clear H';(try clear p2);obtain ⟨x3_1, x4_1, rfl, HA, HK1, HO_3, HB⟩ := hrel
  cases gk with
  | zero => exact absurd HA.out (by simp [epitomeref01_Of.l0])
  | succ k1 =>
   have H := HA.out;clear HA;simp only [epitomeref01_Of.l0] at H
   by_cases c4 : x4_1 < (l0.length : Int)
   ·rw [if_pos c4] at H;have c4b0 : decide (x4_1 < (l0.length : Int)) = true := decide_eq_true c4
    clear c4;by_cases c5 : 0 ≤ x4_1
    ·rw [if_pos c5] at H;have c5b0 : decide (0 ≤ x4_1) = true := decide_eq_true c5
     clear c5;replace H := Option.bind_eq_some_iff.mp H;obtain ⟨t105, A60, H⟩ := H;have A6 := Am A60;clear A60;by_cases c7 : t105 = 1
     ·rw [if_pos c7] at H;have c7b0 : (t105 == 1) = true := beq_iff_eq.mpr c7
      have c7b1 : (t105 != 1) = false := bne_eq_false_iff_eq.mpr c7
      clear c7;by_cases c8 : x3_1.length < 140737488355328
      ·rw [if_pos c8] at H;have LMc8 := Am c8;clear c8;obtain ⟨y106, hy106⟩ : ∃ y_ : List Int, y_ = (x3_1 ++ [(wrap64 (rd l0 x4_1)) % 256]) := ⟨_, rfl⟩
       replace H : (epitomeref01_Of.l0 k1 l0 y106 (wrap64 (x4_1 + 1))) = some r := by first | (rw [hy106]; with_reducible exact H) | (have H2_ := (Option.bind_some _ _).symm.trans H; rw [hy106]; with_reducible exact H2_) | (have H2_ := (Option.bind_some _ _).symm.trans H; with_reducible exact H2_) | with_reducible exact H | (rw [hy106]; exact H) | exact H
       have Ny106 := Am hy106;clear hy106;have H' := Am H
       clear H;have p104 : 0 ≤ (x4_1 : Int) := of_decide_eq_true (by assumption)
       have q104 : x4_1 < (l0.length : Int) := of_decide_eq_true (by assumption)
       obtain ⟨ad104, e104, hx104_0⟩ := Kd.at_int HR0.out x4_1 p104 q104
       cases e104
       replace hx104_0 := (HB.out.cell (World.block_lt_of_cell? w _ hx104_0)).trans hx104_0
       replace p104 := eq_true p104;replace q104 := eq_true q104;go_wp2_with (first | ((with_reducible refine gate_callee (f := 88) rfl ?_); refine goesL_ (some 19) rfl rfl Tryd.func88 (by kernel_rfl) rfl #[.int .i64 (wrap64 (rd l0 x4_1))] rfl zE ?_; (with_reducible refine (epitomeref01_size.calls k1 (wrap64 (rd l0 x4_1)) t105 _ A6.out).mono ?_); rintro e w' ⟨rfl, ⟨nd, rfl⟩⟩; refine ⟨_, rfl, ?_⟩) | ((with_reducible refine gate_builtin (b := .append) (xs := #[.tmp 22, .tmp 25]) rfl ?_); at_builtin; refine R_append (Kd.int .u8) (w0 := w) w.heap.size rfl (.tmp 22) (.tmp 25) 107 5 (.int .u8 0) 1 rfl Tryd.underlying107 info5 rfl (by decide) (by omega) u3 x3_1 ((wrap64 (rd l0 x4_1)) % 256) [.int .u8 ((wrap64 (rd l0 x4_1)) % 256)] (fun _ => True) (fun _ => False) rfl rfl ?aP (fun _ hk => hk.elim) ?aF ?aO ?aB ?aS ?aL ?_; (case aP => exact rfl); (case aB => exact (zB HB)); (case aF => exact (fun _ _ => trivial)); (case aO => exact (zR HO_3)); (case aS => exact (below_size (zB HB))); (case aL => have := LMc8.out; omega); intro v107 w9 ho hb hg hat; rw [← Ny106.out] at ho; replace HB := Am (hb);have HO108 := Am (ho);clear HO_3; clear ho hb hg hat))
       go_roundg k1
       case measure => have := HK1.out; omega
       case rel => exact ⟨(y106), (wrap64 (x4_1 + 1)), zG, H', ⟨by have := HK1.out; omega⟩, ⟨(zR HO108)⟩, ⟨(zB HB)⟩⟩
      ·rw [if_neg c8] at H;exact absurd H (by simp)
     ·rw [if_neg c7] at H;have c7b0 : (t105 == 1) = false := beq_eq_false_iff_ne.mpr c7
      have c7b1 : (t105 != 1) = true := bne_iff_ne.mpr c7
      by_cases c10 : t105 = 2
      ·rw [if_pos c10] at H;have c10b0 : (t105 == 2) = true := beq_iff_eq.mpr c10
       have c10b1 : (t105 != 2) = false := bne_eq_false_iff_eq.mpr c10
       clear c10;obtain ⟨y109, hy109⟩ : ∃ y_ : List Int, y_ = (([(wrap64 (192 + (wrap64 (Int.tdiv (wrap64 (rd l0 x4_1)) 64)))) % 256, (wrap64 (128 + (Int.tmod (wrap64 (rd l0 x4_1)) 64))) % 256] : List Int)) := ⟨_, rfl⟩
       replace H : (if x3_1.length + y109.length < 140737488355328 then (epitomeref01_Of.l0 k1 l0 (x3_1 ++ y109) (wrap64 (x4_1 + 1))) else (none)) = some r := by first | (rw [hy109]; with_reducible exact H) | (have H2_ := (Option.bind_some _ _).symm.trans H; rw [hy109]; with_reducible exact H2_) | (have H2_ := (Option.bind_some _ _).symm.trans H; with_reducible exact H2_) | with_reducible exact H | (rw [hy109]; exact H) | exact H
       have Ny109 := Am hy109;clear hy109;by_cases c11 : x3_1.length + y109.length < 140737488355328
       ·rw [if_pos c11] at H;have LMc11 := Am c11;clear c11;obtain ⟨y112, hy112⟩ : ∃ y_ : List Int, y_ = (x3_1 ++ y109) := ⟨_, rfl⟩
        replace H : (epitomeref01_Of.l0 k1 l0 y112 (wrap64 (x4_1 + 1))) = some r := by first | (rw [hy112]; with_reducible exact H) | (have H2_ := (Option.bind_some _ _).symm.trans H; rw [hy112]; with_reducible exact H2_) | (have H2_ := (Option.bind_some _ _).symm.trans H; with_reducible exact H2_) | with_reducible exact H | (rw [hy112]; exact H) | exact H
        have Ny112 := Am hy112;clear hy112;have H' := Am H
        clear H;have p104 : 0 ≤ (x4_1 : Int) := of_decide_eq_true (by assumption)
        have q104 : x4_1 < (l0.length : Int) := of_decide_eq_true (by assumption)
        obtain ⟨ad104, e104, hx104_0⟩ := Kd.at_int HR0.out x4_1 p104 q104
        cases e104
        replace hx104_0 := (HB.out.cell (World.block_lt_of_cell? w _ hx104_0)).trans hx104_0
        replace p104 := eq_true p104;replace q104 := eq_true q104;go_wp2_with (first | ((with_reducible refine gate_callee (f := 88) rfl ?_); refine goesL_ (some 19) rfl rfl Tryd.func88 (by kernel_rfl) rfl #[.int .i64 (wrap64 (rd l0 x4_1))] rfl zE ?_; (with_reducible refine (epitomeref01_size.calls k1 (wrap64 (rd l0 x4_1)) t105 _ A6.out).mono ?_); rintro e w' ⟨rfl, ⟨nd, rfl⟩⟩; refine ⟨_, rfl, ?_⟩) | ((with_reducible refine gate_dst (N := 38) rfl ?_); refine R_lit (Kd.int .u8) _ 5 ?hg (N := 38) ?hd (xs := ([(wrap64 (192 + (wrap64 (Int.tdiv (wrap64 (rd l0 x4_1)) 64)))) % 256, (wrap64 (128 + (Int.tmod (wrap64 (rd l0 x4_1)) 64))) % 256] : List Int)) (inner := [.int .u8 ((wrap64 (192 + (wrap64 (Int.tdiv (wrap64 (rd l0 x4_1)) 64)))) % 256), .int .u8 ((wrap64 (128 + (Int.tmod (wrap64 (rd l0 x4_1)) 64))) % 256)]) (ok := fun _ => True) (okp := fun _ => True) ?hr ?hp (fun _ hk => hk) trivial (Below.refl _ _) (Nat.le_refl _) (by simp) ?_; (case hd => rfl); (case hg => rfl); (case hr => first | (go_simp; done) | (go_simp; rfl)); (case hp => exact (Reps.one (show Kd.M (Kd.int .u8) _ _ _ ((wrap64 (192 + (wrap64 (Int.tdiv (wrap64 (rd l0 x4_1)) 64)))) % 256) [.int .u8 ((wrap64 (192 + (wrap64 (Int.tdiv (wrap64 (rd l0 x4_1)) 64)))) % 256)] from rfl) (Reps.one (show Kd.M (Kd.int .u8) _ _ _ ((wrap64 (128 + (Int.tmod (wrap64 (rd l0 x4_1)) 64))) % 256) [.int .u8 ((wrap64 (128 + (Int.tmod (wrap64 (rd l0 x4_1)) 64))) % 256)] from rfl) (Reps.none _ _)))); intro v110 w12 ho13 hb hg_ hnew_; clear hg_ hnew_; (first | rw [← Ny109.out] at ho13 | (simp only [Int.reduceToNat] at ho13; rw [← Ny109.out] at ho13)); have HO111 := Am (R_lower (zn ho13 HO_3) (below_size (zB HB)));replace HO_3 := Am (zr HO_3 ho13 hb);replace HB := Am (below_step (zB HB) hb); clear hb ho13; obtain ⟨Ao15, co15, eo15⟩ := R_slice HO111.out; subst eo15) | ((with_reducible refine gate_builtin (b := .append) (xs := #[.tmp 29, .tmp 38]) rfl ?_); at_builtin; refine R_append_rows (Kd.int .u8) (w0 := w) w.heap.size rfl (.tmp 29) (.tmp 38) 107 5 (.int .u8 0) 1 rfl Tryd.underlying107 info5 rfl (by decide) (by omega) u3 x3_1 y109 _ _ _ (fun k_ => some k_ ≠ (.slice Ao15 y109.length co15 : Value).ownBlock) (fun _ => False) rfl rfl ?aO ?aR (fun _ _ h => h) (fun _ h => h.elim) ?aF ?aB ?aS ?aL ?_; (case aR => exact zI (R_reads' HO111.out).2.2); (case aB => exact (zB HB)); (case aF => exact (fun k_ hk => Kd.fresh' (R_lt (zR HO111)) k_ hk)); (case aO => exact (by (with_reducible repeat (first | apply R_alloc | apply R_drewN | apply R_drew)); exact R_mono HO_3.out (fun _ hk => hk.2))); (case aS => exact (below_size (zB HB))); (case aL => have := LMc11.out; omega); intro v113 w14 ho hb hg hat; rw [← Ny112.out] at ho; replace HO111 := Am (R_after (ok := (fun _ => True)) (zR HO111) hg hat);replace HB := Am (hb);have HO114 := Am (ho);clear HO_3; clear ho hb hg hat))
        go_roundg k1
        case measure => have := HK1.out; omega
        case rel => exact ⟨(y112), (wrap64 (x4_1 + 1)), zG, H', ⟨by have := HK1.out; omega⟩, ⟨by (with_reducible repeat (first | apply R_alloc | apply R_drewN | apply R_drew)); exact R_mono HO114.out (fun _ hk => trivial)⟩, ⟨(zB HB)⟩⟩
       ·rw [if_neg c11] at H;exact absurd H (by simp)
      ·rw [if_neg c10] at H;have c10b0 : (t105 == 2) = false := beq_eq_false_iff_ne.mpr c10
       have c10b1 : (t105 != 2) = true := bne_iff_ne.mpr c10
       by_cases c16 : t105 = 3
       ·rw [if_pos c16] at H;have c16b0 : (t105 == 3) = true := beq_iff_eq.mpr c16
        have c16b1 : (t105 != 3) = false := bne_eq_false_iff_eq.mpr c16
        clear c16;obtain ⟨y115, hy115⟩ : ∃ y_ : List Int, y_ = (([(wrap64 (224 + (wrap64 (Int.tdiv (wrap64 (rd l0 x4_1)) 4096)))) % 256, (wrap64 (128 + (Int.tmod (wrap64 (Int.tdiv (wrap64 (rd l0 x4_1)) 64)) 64))) % 256, (wrap64 (128 + (Int.tmod (wrap64 (rd l0 x4_1)) 64))) % 256] : List Int)) := ⟨_, rfl⟩
        replace H : (if x3_1.length + y115.length < 140737488355328 then (epitomeref01_Of.l0 k1 l0 (x3_1 ++ y115) (wrap64 (x4_1 + 1))) else (none)) = some r := by first | (rw [hy115]; with_reducible exact H) | (have H2_ := (Option.bind_some _ _).symm.trans H; rw [hy115]; with_reducible exact H2_) | (have H2_ := (Option.bind_some _ _).symm.trans H; with_reducible exact H2_) | with_reducible exact H | (rw [hy115]; exact H) | exact H
        have Ny115 := Am hy115;clear hy115;by_cases c17 : x3_1.length + y115.length < 140737488355328
        ·rw [if_pos c17] at H;have LMc17 := Am c17;clear c17;obtain ⟨y118, hy118⟩ : ∃ y_ : List Int, y_ = (x3_1 ++ y115) := ⟨_, rfl⟩
         replace H : (epitomeref01_Of.l0 k1 l0 y118 (wrap64 (x4_1 + 1))) = some r := by first | (rw [hy118]; with_reducible exact H) | (have H2_ := (Option.bind_some _ _).symm.trans H; rw [hy118]; with_reducible exact H2_) | (have H2_ := (Option.bind_some _ _).symm.trans H; with_reducible exact H2_) | with_reducible exact H | (rw [hy118]; exact H) | exact H
         have Ny118 := Am hy118;clear hy118;have H' := Am H
         clear H;have p104 : 0 ≤ (x4_1 : Int) := of_decide_eq_true (by assumption)
         have q104 : x4_1 < (l0.length : Int) := of_decide_eq_true (by assumption)
         obtain ⟨ad104, e104, hx104_0⟩ := Kd.at_int HR0.out x4_1 p104 q104
         cases e104
         replace hx104_0 := (HB.out.cell (World.block_lt_of_cell? w _ hx104_0)).trans hx104_0
         replace p104 := eq_true p104;replace q104 := eq_true q104;go_wp2_with (first | ((with_reducible refine gate_callee (f := 88) rfl ?_); refine goesL_ (some 19) rfl rfl Tryd.func88 (by kernel_rfl) rfl #[.int .i64 (wrap64 (rd l0 x4_1))] rfl zE ?_; (with_reducible refine (epitomeref01_size.calls k1 (wrap64 (rd l0 x4_1)) t105 _ A6.out).mono ?_); rintro e w' ⟨rfl, ⟨nd, rfl⟩⟩; refine ⟨_, rfl, ?_⟩) | ((with_reducible refine gate_dst (N := 56) rfl ?_); refine R_lit (Kd.int .u8) _ 5 ?hg (N := 56) ?hd (xs := ([(wrap64 (224 + (wrap64 (Int.tdiv (wrap64 (rd l0 x4_1)) 4096)))) % 256, (wrap64 (128 + (Int.tmod (wrap64 (Int.tdiv (wrap64 (rd l0 x4_1)) 64)) 64))) % 256, (wrap64 (128 + (Int.tmod (wrap64 (rd l0 x4_1)) 64))) % 256] : List Int)) (inner := [.int .u8 ((wrap64 (224 + (wrap64 (Int.tdiv (wrap64 (rd l0 x4_1)) 4096)))) % 256), .int .u8 ((wrap64 (128 + (Int.tmod (wrap64 (Int.tdiv (wrap64 (rd l0 x4_1)) 64)) 64))) % 256), .int .u8 ((wrap64 (128 + (Int.tmod (wrap64 (rd l0 x4_1)) 64))) % 256)]) (ok := fun _ => True) (okp := fun _ => True) ?hr ?hp (fun _ hk => hk) trivial (Below.refl _ _) (Nat.le_refl _) (by simp) ?_; (case hd => rfl); (case hg => rfl); (case hr => first | (go_simp; done) | (go_simp; rfl)); (case hp => exact (Reps.one (show Kd.M (Kd.int .u8) _ _ _ ((wrap64 (224 + (wrap64 (Int.tdiv (wrap64 (rd l0 x4_1)) 4096)))) % 256) [.int .u8 ((wrap64 (224 + (wrap64 (Int.tdiv (wrap64 (rd l0 x4_1)) 4096)))) % 256)] from rfl) (Reps.one (show Kd.M (Kd.int .u8) _ _ _ ((wrap64 (128 + (Int.tmod (wrap64 (Int.tdiv (wrap64 (rd l0 x4_1)) 64)) 64))) % 256) [.int .u8 ((wrap64 (128 + (Int.tmod (wrap64 (Int.tdiv (wrap64 (rd l0 x4_1)) 64)) 64))) % 256)] from rfl) (Reps.one (show Kd.M (Kd.int .u8) _ _ _ ((wrap64 (128 + (Int.tmod (wrap64 (rd l0 x4_1)) 64))) % 256) [.int .u8 ((wrap64 (128 + (Int.tmod (wrap64 (rd l0 x4_1)) 64))) % 256)] from rfl) (Reps.none _ _))))); intro v116 w18 ho19 hb hg_ hnew_; clear hg_ hnew_; (first | rw [← Ny115.out] at ho19 | (simp only [Int.reduceToNat] at ho19; rw [← Ny115.out] at ho19)); have HO117 := Am (R_lower (zn ho19 HO_3) (below_size (zB HB)));replace HO_3 := Am (zr HO_3 ho19 hb);replace HB := Am (below_step (zB HB) hb); clear hb ho19; obtain ⟨Ao21, co21, eo21⟩ := R_slice HO117.out; subst eo21) | ((with_reducible refine gate_builtin (b := .append) (xs := #[.tmp 42, .tmp 56]) rfl ?_); at_builtin; refine R_append_rows (Kd.int .u8) (w0 := w) w.heap.size rfl (.tmp 42) (.tmp 56) 107 5 (.int .u8 0) 1 rfl Tryd.underlying107 info5 rfl (by decide) (by omega) u3 x3_1 y115 _ _ _ (fun k_ => some k_ ≠ (.slice Ao21 y115.length co21 : Value).ownBlock) (fun _ => False) rfl rfl ?aO ?aR (fun _ _ h => h) (fun _ h => h.elim) ?aF ?aB ?aS ?aL ?_; (case aR => exact zI (R_reads' HO117.out).2.2); (case aB => exact (zB HB)); (case aF => exact (fun k_ hk => Kd.fresh' (R_lt (zR HO117)) k_ hk)); (case aO => exact (by (with_reducible repeat (first | apply R_alloc | apply R_drewN | apply R_drew)); exact R_mono HO_3.out (fun _ hk => hk.2))); (case aS => exact (below_size (zB HB))); (case aL => have := LMc17.out; omega); intro v119 w20 ho hb hg hat; rw [← Ny118.out] at ho; replace HO117 := Am (R_after (ok := (fun _ => True)) (zR HO117) hg hat);replace HB := Am (hb);have HO120 := Am (ho);clear HO_3; clear ho hb hg hat))
         go_roundg k1
         case measure => have := HK1.out; omega
         case rel => exact ⟨(y118), (wrap64 (x4_1 + 1)), zG, H', ⟨by have := HK1.out; omega⟩, ⟨by (with_reducible repeat (first | apply R_alloc | apply R_drewN | apply R_drew)); exact R_mono HO120.out (fun _ hk => trivial)⟩, ⟨(zB HB)⟩⟩
        ·rw [if_neg c17] at H;exact absurd H (by simp)
       ·rw [if_neg c16] at H;have c16b0 : (t105 == 3) = false := beq_eq_false_iff_ne.mpr c16
        have c16b1 : (t105 != 3) = true := bne_iff_ne.mpr c16
        by_cases c22 : t105 = 4
        ·rw [if_pos c22] at H;have c22b0 : (t105 == 4) = true := beq_iff_eq.mpr c22
         have c22b1 : (t105 != 4) = false := bne_eq_false_iff_eq.mpr c22
         clear c22;obtain ⟨y121, hy121⟩ : ∃ y_ : List Int, y_ = (([(wrap64 (240 + (wrap64 (Int.tdiv (wrap64 (rd l0 x4_1)) 262144)))) % 256, (wrap64 (128 + (Int.tmod (wrap64 (Int.tdiv (wrap64 (rd l0 x4_1)) 4096)) 64))) % 256, (wrap64 (128 + (Int.tmod (wrap64 (Int.tdiv (wrap64 (rd l0 x4_1)) 64)) 64))) % 256, (wrap64 (128 + (Int.tmod (wrap64 (rd l0 x4_1)) 64))) % 256] : List Int)) := ⟨_, rfl⟩
         replace H : (if x3_1.length + y121.length < 140737488355328 then (epitomeref01_Of.l0 k1 l0 (x3_1 ++ y121) (wrap64 (x4_1 + 1))) else (none)) = some r := by first | (rw [hy121]; with_reducible exact H) | (have H2_ := (Option.bind_some _ _).symm.trans H; rw [hy121]; with_reducible exact H2_) | (have H2_ := (Option.bind_some _ _).symm.trans H; with_reducible exact H2_) | with_reducible exact H | (rw [hy121]; exact H) | exact H
         have Ny121 := Am hy121;clear hy121;by_cases c23 : x3_1.length + y121.length < 140737488355328
         ·rw [if_pos c23] at H;have LMc23 := Am c23;clear c23;obtain ⟨y124, hy124⟩ : ∃ y_ : List Int, y_ = (x3_1 ++ y121) := ⟨_, rfl⟩
          replace H : (epitomeref01_Of.l0 k1 l0 y124 (wrap64 (x4_1 + 1))) = some r := by first | (rw [hy124]; with_reducible exact H) | (have H2_ := (Option.bind_some _ _).symm.trans H; rw [hy124]; with_reducible exact H2_) | (have H2_ := (Option.bind_some _ _).symm.trans H; with_reducible exact H2_) | with_reducible exact H | (rw [hy124]; exact H) | exact H
          have Ny124 := Am hy124;clear hy124;have H' := Am H
          clear H;have p104 : 0 ≤ (x4_1 : Int) := of_decide_eq_true (by assumption)
          have q104 : x4_1 < (l0.length : Int) := of_decide_eq_true (by assumption)
          obtain ⟨ad104, e104, hx104_0⟩ := Kd.at_int HR0.out x4_1 p104 q104
          cases e104
          replace hx104_0 := (HB.out.cell (World.block_lt_of_cell? w _ hx104_0)).trans hx104_0
          replace p104 := eq_true p104;replace q104 := eq_true q104;go_wp2_with (first | ((with_reducible refine gate_callee (f := 88) rfl ?_); refine goesL_ (some 19) rfl rfl Tryd.func88 (by kernel_rfl) rfl #[.int .i64 (wrap64 (rd l0 x4_1))] rfl zE ?_; (with_reducible refine (epitomeref01_size.calls k1 (wrap64 (rd l0 x4_1)) t105 _ A6.out).mono ?_); rintro e w' ⟨rfl, ⟨nd, rfl⟩⟩; refine ⟨_, rfl, ?_⟩) | ((with_reducible refine gate_dst (N := 79) rfl ?_); refine R_lit (Kd.int .u8) _ 5 ?hg (N := 79) ?hd (xs := ([(wrap64 (240 + (wrap64 (Int.tdiv (wrap64 (rd l0 x4_1)) 262144)))) % 256, (wrap64 (128 + (Int.tmod (wrap64 (Int.tdiv (wrap64 (rd l0 x4_1)) 4096)) 64))) % 256, (wrap64 (128 + (Int.tmod (wrap64 (Int.tdiv (wrap64 (rd l0 x4_1)) 64)) 64))) % 256, (wrap64 (128 + (Int.tmod (wrap64 (rd l0 x4_1)) 64))) % 256] : List Int)) (inner := [.int .u8 ((wrap64 (240 + (wrap64 (Int.tdiv (wrap64 (rd l0 x4_1)) 262144)))) % 256), .int .u8 ((wrap64 (128 + (Int.tmod (wrap64 (Int.tdiv (wrap64 (rd l0 x4_1)) 4096)) 64))) % 256), .int .u8 ((wrap64 (128 + (Int.tmod (wrap64 (Int.tdiv (wrap64 (rd l0 x4_1)) 64)) 64))) % 256), .int .u8 ((wrap64 (128 + (Int.tmod (wrap64 (rd l0 x4_1)) 64))) % 256)]) (ok := fun _ => True) (okp := fun _ => True) ?hr ?hp (fun _ hk => hk) trivial (Below.refl _ _) (Nat.le_refl _) (by simp) ?_; (case hd => rfl); (case hg => rfl); (case hr => first | (go_simp; done) | (go_simp; rfl)); (case hp => exact (Reps.one (show Kd.M (Kd.int .u8) _ _ _ ((wrap64 (240 + (wrap64 (Int.tdiv (wrap64 (rd l0 x4_1)) 262144)))) % 256) [.int .u8 ((wrap64 (240 + (wrap64 (Int.tdiv (wrap64 (rd l0 x4_1)) 262144)))) % 256)] from rfl) (Reps.one (show Kd.M (Kd.int .u8) _ _ _ ((wrap64 (128 + (Int.tmod (wrap64 (Int.tdiv (wrap64 (rd l0 x4_1)) 4096)) 64))) % 256) [.int .u8 ((wrap64 (128 + (Int.tmod (wrap64 (Int.tdiv (wrap64 (rd l0 x4_1)) 4096)) 64))) % 256)] from rfl) (Reps.one (show Kd.M (Kd.int .u8) _ _ _ ((wrap64 (128 + (Int.tmod (wrap64 (Int.tdiv (wrap64 (rd l0 x4_1)) 64)) 64))) % 256) [.int .u8 ((wrap64 (128 + (Int.tmod (wrap64 (Int.tdiv (wrap64 (rd l0 x4_1)) 64)) 64))) % 256)] from rfl) (Reps.one (show Kd.M (Kd.int .u8) _ _ _ ((wrap64 (128 + (Int.tmod (wrap64 (rd l0 x4_1)) 64))) % 256) [.int .u8 ((wrap64 (128 + (Int.tmod (wrap64 (rd l0 x4_1)) 64))) % 256)] from rfl) (Reps.none _ _)))))); intro v122 w24 ho25 hb hg_ hnew_; clear hg_ hnew_; (first | rw [← Ny121.out] at ho25 | (simp only [Int.reduceToNat] at ho25; rw [← Ny121.out] at ho25)); have HO123 := Am (R_lower (zn ho25 HO_3) (below_size (zB HB)));replace HO_3 := Am (zr HO_3 ho25 hb);replace HB := Am (below_step (zB HB) hb); clear hb ho25; obtain ⟨Ao27, co27, eo27⟩ := R_slice HO123.out; subst eo27) | ((with_reducible refine gate_builtin (b := .append) (xs := #[.tmp 60, .tmp 79]) rfl ?_); at_builtin; refine R_append_rows (Kd.int .u8) (w0 := w) w.heap.size rfl (.tmp 60) (.tmp 79) 107 5 (.int .u8 0) 1 rfl Tryd.underlying107 info5 rfl (by decide) (by omega) u3 x3_1 y121 _ _ _ (fun k_ => some k_ ≠ (.slice Ao27 y121.length co27 : Value).ownBlock) (fun _ => False) rfl rfl ?aO ?aR (fun _ _ h => h) (fun _ h => h.elim) ?aF ?aB ?aS ?aL ?_; (case aR => exact zI (R_reads' HO123.out).2.2); (case aB => exact (zB HB)); (case aF => exact (fun k_ hk => Kd.fresh' (R_lt (zR HO123)) k_ hk)); (case aO => exact (by (with_reducible repeat (first | apply R_alloc | apply R_drewN | apply R_drew)); exact R_mono HO_3.out (fun _ hk => hk.2))); (case aS => exact (below_size (zB HB))); (case aL => have := LMc23.out; omega); intro v125 w26 ho hb hg hat; rw [← Ny124.out] at ho; replace HO123 := Am (R_after (ok := (fun _ => True)) (zR HO123) hg hat);replace HB := Am (hb);have HO126 := Am (ho);clear HO_3; clear ho hb hg hat))
          go_roundg k1
          case measure => have := HK1.out; omega
          case rel => exact ⟨(y124), (wrap64 (x4_1 + 1)), zG, H', ⟨by have := HK1.out; omega⟩, ⟨by (with_reducible repeat (first | apply R_alloc | apply R_drewN | apply R_drew)); exact R_mono HO126.out (fun _ hk => trivial)⟩, ⟨(zB HB)⟩⟩
         ·rw [if_neg c23] at H;exact absurd H (by simp)
        ·rw [if_neg c22] at H;have c22b0 : (t105 == 4) = false := beq_eq_false_iff_ne.mpr c22
         have c22b1 : (t105 != 4) = true := bne_iff_ne.mpr c22
         have H' := Am H
         clear H;have p104 : 0 ≤ (x4_1 : Int) := of_decide_eq_true (by assumption)
         have q104 : x4_1 < (l0.length : Int) := of_decide_eq_true (by assumption)
         obtain ⟨ad104, e104, hx104_0⟩ := Kd.at_int HR0.out x4_1 p104 q104
         cases e104
         replace hx104_0 := (HB.out.cell (World.block_lt_of_cell? w _ hx104_0)).trans hx104_0
         replace p104 := eq_true p104;replace q104 := eq_true q104;go_wp2_with (first | ((with_reducible refine gate_callee (f := 88) rfl ?_); refine goesL_ (some 19) rfl rfl Tryd.func88 (by kernel_rfl) rfl #[.int .i64 (wrap64 (rd l0 x4_1))] rfl zE ?_; (with_reducible refine (epitomeref01_size.calls k1 (wrap64 (rd l0 x4_1)) t105 _ A6.out).mono ?_); rintro e w' ⟨rfl, ⟨nd, rfl⟩⟩; refine ⟨_, rfl, ?_⟩))
         go_roundg k1
         case measure => have := HK1.out; omega
         case rel => exact ⟨(x3_1), (wrap64 (x4_1 + 1)), zG, H', ⟨by have := HK1.out; omega⟩, ⟨(zR HO_3)⟩, ⟨(zB HB)⟩⟩
    ·rw [if_neg c5] at H;exact absurd H (by simp)
   ·rw [if_neg c4] at H;have c4b0 : decide (x4_1 < (l0.length : Int)) = false := decide_eq_false c4
    clear c4;obtain rfl := Option.some.inj H;have hcv28 := own_string (P := Tryd.prog) Tryd.underlying107 Tryd.underlying5 Tryd.underlying9 (Kd.own_of_R HO_3.out)
    go_wp2
    go_ret
    exact ⟨zF, (zB HB)⟩
end Go.Proofs.YtekjfodfedpioaaDoor.F
end
section
namespace Go.Proofs.YtekjfodfedpioaaDoor.F
open Go.RowKit Go.Proofs.YtekjfodfedpioaaDoorW.PrintWords Go.Proofs.YtekjfodfedpioaaDoorW.PrintLast Go.Proofs.YtekjfodfedpioaaDoorW.PrintMore
attribute [local go_sem] max2_int min2_int max_two min_two max_three min_three max_four min_four cell_setCell_isSome
set_option linter.unusedVariables false
set_option linter.unusedSimpArgs false
open Kd
def epitomeref01_Fit.l0 : Nat → ByteArray → List Int → Int → Int → Int → Int → Int → Int → Int → Int → Int → Option (ByteArray)
  | 0, _, _, _, _, _, _, _, _, _, _, _ => none
  | k + 1, x0, x4, x5, x102000, x102001, x102002, x102003, x102004, x102005, x102006, x102007 => if x5 < (x0.size : Int) then (if 0 ≤ x5 then ((fit_rune.f x102000 x102001 x102002 x102003 x102004 x102005 x102006 x102007 (Int.tmod (bt x0 x5) 8)).bind fun t105 => (if x4.length < 35184372088832 then (epitomeref01_Fit.l0 k x0 (x4 ++ [t105]) (wrap64 (x5 + 1)) x102000 x102001 x102002 x102003 x102004 x102005 x102006 x102007) else (none))) else (none)) else ((epitomeref01_Of.f k x4).bind fun t109 => (some t109))
def epitomeref01_Fit.f (k : Nat) (a0 : ByteArray) : Option (ByteArray) := epitomeref01_Fit.l0 k a0 (([] : List Int)) 0 97 98 99 120 121 233 8364 128512
theorem epitomeref01_Fit.mono_l : ∀ k, (∀ y0 y1 y2 y3 y4 y5 y6 y7 y8 y9 y10, LeO (epitomeref01_Fit.l0 k y0 y1 y2 y3 y4 y5 y6 y7 y8 y9 y10) (epitomeref01_Fit.l0 (k + 1) y0 y1 y2 y3 y4 y5 y6 y7 y8 y9 y10))
  | 0 => fun _ _ _ _ _ _ _ _ _ _ _ r h => by simp [epitomeref01_Fit.l0] at h
  | k + 1 => by
    have ih0 := epitomeref01_Fit.mono_l k
    · intro y0 y1 y2 y3 y4 y5 y6 y7 y8 y9 y10
      unfold epitomeref01_Fit.l0
      repeat' first
      | (with_reducible exact ih0 _ _ _ _ _ _ _ _ _ _ _)
      | (with_reducible exact epitomeref01_Of.mono _ _)
      | (with_reducible exact LeO.refl _)
      | (with_reducible exact LeO.none _)
      | (with_reducible refine LeO.ite ?_ ?_)
      | (with_reducible refine LeO.bind ?_ (fun _ => ?_))
      | exact ih0 _ _ _ _ _ _ _ _ _ _ _
      | exact epitomeref01_Of.mono _ _
      | exact LeO.none _
      | refine LeO.ite ?_ ?_
      | refine LeO.bind ?_ (fun _ => ?_)
theorem epitomeref01_Fit.mono : ∀ a0 k, LeO (epitomeref01_Fit.f k a0) (epitomeref01_Fit.f (k + 1) a0) := by
  intro a0 k
  have ih0 := epitomeref01_Fit.mono_l k
  unfold epitomeref01_Fit.f
  repeat' first
      | (with_reducible exact ih0 _ _ _ _ _ _ _ _ _ _ _)
      | (with_reducible exact epitomeref01_Of.mono _ _)
      | (with_reducible exact LeO.refl _)
      | (with_reducible exact LeO.none _)
      | (with_reducible refine LeO.ite ?_ ?_)
      | (with_reducible refine LeO.bind ?_ (fun _ => ?_))
      | exact ih0 _ _ _ _ _ _ _ _ _ _ _
      | exact epitomeref01_Of.mono _ _
      | exact LeO.none _
      | refine LeO.ite ?_ ?_
      | refine LeO.bind ?_ (fun _ => ?_)
set_option maxHeartbeats 40000000 in
set_option maxRecDepth 100000 in
theorem epitomeref01_Fit.calls (k : Nat) (a0 : ByteArray) (r : ByteArray) (w : World) (h : epitomeref01_Fit.f k a0 = some r) :
  Calls Tryd.prog 36 #[.string a0] w fun e w' => e = .returned (.string r) ∧ Below w.heap.size w w' := by
 have hu82 := Tryd.underlying82
 have HB := Am (Below.refl w.heap.size w)
 have H : (epitomeref01_Fit.l0 k a0 (([] : List Int)) 0 97 98 99 120 121 233 8364 128512) = some r := h
 clear h;obtain ⟨y102, hy102⟩ : ∃ y_ : List Int, y_ = (([] : List Int)) := ⟨_, rfl⟩
 replace H : (epitomeref01_Fit.l0 k a0 y102 0 97 98 99 120 121 233 8364 128512) = some r := by first | (rw [hy102]; with_reducible exact H) | (have H2_ := (Option.bind_some _ _).symm.trans H; rw [hy102]; with_reducible exact H2_) | (have H2_ := (Option.bind_some _ _).symm.trans H; with_reducible exact H2_) | with_reducible exact H | (rw [hy102]; exact H) | exact H
 have Ny102 := Am hy102;clear hy102;have H' := Am H
 clear H;go_enter Tryd.func36, Tryd.ntmps36
 go_wp2_with (first | ((with_reducible refine gate_dst (N := 3) rfl ?_); refine box_event ?hg (N := 3) ?hd (cs := #[.int .i32 0, .int .i32 0, .int .i32 0, .int .i32 0, .int .i32 0, .int .i32 0, .int .i32 0, .int .i32 0]) (t := 82) ?hr ?_; (case hd => rfl); (case hg => rfl); (case hr => first | (go_simp; done) | (go_simp; rfl)); intro gb101 hg w2 hbox hb; have BK101 := Am (hbox);have GW101 := Am (zO (w := w) HB hg);have GE101 := Am (zO (w := w) HB hg);replace HB := Am (below_step (zB HB) hb); clear hb hbox hg; have hcz3_0 : w2.cell? ⟨gb101, 0, none⟩ = some (.int .i32 0) := (blk_cell BK101.out 0).trans rfl; have hcz3_1 : w2.cell? ⟨gb101, 1, none⟩ = some (.int .i32 0) := (blk_cell BK101.out 1).trans rfl; have hcz3_2 : w2.cell? ⟨gb101, 2, none⟩ = some (.int .i32 0) := (blk_cell BK101.out 2).trans rfl; have hcz3_3 : w2.cell? ⟨gb101, 3, none⟩ = some (.int .i32 0) := (blk_cell BK101.out 3).trans rfl; have hcz3_4 : w2.cell? ⟨gb101, 4, none⟩ = some (.int .i32 0) := (blk_cell BK101.out 4).trans rfl; have hcz3_5 : w2.cell? ⟨gb101, 5, none⟩ = some (.int .i32 0) := (blk_cell BK101.out 5).trans rfl; have hcz3_6 : w2.cell? ⟨gb101, 6, none⟩ = some (.int .i32 0) := (blk_cell BK101.out 6).trans rfl; have hcz3_7 : w2.cell? ⟨gb101, 7, none⟩ = some (.int .i32 0) := (blk_cell BK101.out 7).trans rfl; have hfz3_0 := blk_frozen BK101.out 0; have hfz3_1 := blk_frozen BK101.out 1; have hfz3_2 := blk_frozen BK101.out 2; have hfz3_3 := blk_frozen BK101.out 3; have hfz3_4 := blk_frozen BK101.out 4; have hfz3_5 := blk_frozen BK101.out 5; have hfz3_6 := blk_frozen BK101.out 6; have hfz3_7 := blk_frozen BK101.out 7) | ((with_reducible refine gate_dst (N := 7) rfl ?_); refine R_lit (Kd.int .i32) _ 21 ?hg (N := 7) ?hd (xs := ([] : List Int)) (inner := []) (ok := fun _ => True) (okp := fun _ => True) ?hr ?hp (fun _ hk => hk) trivial (Below.refl _ _) (Nat.le_refl _) (by simp) ?_; (case hd => rfl); (case hg => rfl); (case hr => first | (go_simp; done) | (go_simp; rfl)); (case hp => exact (Reps.none _ _)); intro v103 w4 ho5 hb hg_ hnew_; clear hg_ hnew_; (first | rw [← Ny102.out] at ho5 | (simp only [Int.reduceToNat] at ho5; rw [← Ny102.out] at ho5)); have HO104 := Am (R_lower ho5 (below_size (zB HB)));replace BK101 := Am (blk_below (g := gb101) (o := .cells #[.int .i32 97, .int .i32 98, .int .i32 99, .int .i32 120, .int .i32 121, .int .i32 233, .int .i32 8364, .int .i32 128512] 82 (0, 0)) (zP BK101) hb);replace HB := Am (below_step (zB HB) hb); clear hb ho5))
 go_loopg [4, 5] k (fun kq v4 v5 w' => ∃ (x4_1 : List Int) (x5_1 : Int), v5 = .int .i64 x5_1 ∧ Aside0 (epitomeref01_Fit.l0 kq a0 x4_1 x5_1 97 98 99 120 121 233 8364 128512 = some r) ∧ Aside0 (kq ≤ k) ∧ Aside0 (Kd.R (Kd.int .i32) 21 w' w.heap.size (fun _ => True) v4 x4_1) ∧ Aside0 (w'.heap[gb101]? = some (.cells #[.int .i32 97, .int .i32 98, .int .i32 99, .int .i32 120, .int .i32 121, .int .i32 233, .int .i32 8364, .int .i32 128512] 82 (0, 0))) ∧ Aside0 (Below w.heap.size w w'))
 case atStart => exact ⟨(y102), (0), zG, H', ⟨Nat.le_refl _⟩, ⟨(zR HO104)⟩, ⟨(zK BK101)⟩, ⟨(zB HB)⟩⟩
 case round =>
  clear H';(try clear p2);(try clear c3);(try clear hcz3_0);(try clear hcz3_1);(try clear hcz3_2);(try clear hcz3_3);(try clear hcz3_4);(try clear hcz3_5);(try clear hcz3_6);(try clear hcz3_7);(try clear hfz3_0);(try clear hfz3_1);(try clear hfz3_2);(try clear hfz3_3);(try clear hfz3_4);(try clear hfz3_5);(try clear hfz3_6);(try clear hfz3_7);obtain ⟨x4_1, x5_1, rfl, HA, HK1, HO_4, BK101, HB⟩ := hrel
  cases gk with
  | zero => exact absurd HA.out (by simp [epitomeref01_Fit.l0])
  | succ k1 =>
   have H := HA.out;clear HA;simp only [epitomeref01_Fit.l0] at H
   by_cases c6 : x5_1 < (a0.size : Int)
   ·rw [if_pos c6] at H;have c6b0 : decide (x5_1 < (a0.size : Int)) = true := decide_eq_true c6
    clear c6;by_cases c7 : 0 ≤ x5_1
    ·rw [if_pos c7] at H;have c7b0 : decide (0 ≤ x5_1) = true := decide_eq_true c7
     clear c7;replace H := Option.bind_eq_some_iff.mp H;obtain ⟨t105, A90, H⟩ := H;have A9 := Am A90;clear A90;by_cases c10 : x4_1.length < 35184372088832
     ·rw [if_pos c10] at H;have LMc10 := Am c10;clear c10;obtain ⟨y106, hy106⟩ : ∃ y_ : List Int, y_ = (x4_1 ++ [t105]) := ⟨_, rfl⟩
      replace H : (epitomeref01_Fit.l0 k1 a0 y106 (wrap64 (x5_1 + 1)) 97 98 99 120 121 233 8364 128512) = some r := by first | (rw [hy106]; with_reducible exact H) | (have H2_ := (Option.bind_some _ _).symm.trans H; rw [hy106]; with_reducible exact H2_) | (have H2_ := (Option.bind_some _ _).symm.trans H; with_reducible exact H2_) | with_reducible exact H | (rw [hy106]; exact H) | exact H
      have Ny106 := Am hy106;clear hy106;have H' := Am H
      clear H;have p8 : 0 ≤ (x5_1 : Int) := of_decide_eq_true (by assumption)
      have q8 : x5_1 < (a0.size : Int) := of_decide_eq_true (by assumption)
      have hx8 := bt_at a0 x5_1
      replace p8 := eq_true p8;replace q8 := eq_true q8;have hcz11_0 : wr.cell? ⟨gb101, 0, none⟩ = some (.int .i32 97) := (blk_cell BK101.out 0).trans rfl
      have hcz11_1 : wr.cell? ⟨gb101, 1, none⟩ = some (.int .i32 98) := (blk_cell BK101.out 1).trans rfl
      have hcz11_2 : wr.cell? ⟨gb101, 2, none⟩ = some (.int .i32 99) := (blk_cell BK101.out 2).trans rfl
      have hcz11_3 : wr.cell? ⟨gb101, 3, none⟩ = some (.int .i32 120) := (blk_cell BK101.out 3).trans rfl
      have hcz11_4 : wr.cell? ⟨gb101, 4, none⟩ = some (.int .i32 121) := (blk_cell BK101.out 4).trans rfl
      have hcz11_5 : wr.cell? ⟨gb101, 5, none⟩ = some (.int .i32 233) := (blk_cell BK101.out 5).trans rfl
      have hcz11_6 : wr.cell? ⟨gb101, 6, none⟩ = some (.int .i32 8364) := (blk_cell BK101.out 6).trans rfl
      have hcz11_7 : wr.cell? ⟨gb101, 7, none⟩ = some (.int .i32 128512) := (blk_cell BK101.out 7).trans rfl
      have hfz11_0 := blk_frozen BK101.out 0;have hfz11_1 := blk_frozen BK101.out 1;have hfz11_2 := blk_frozen BK101.out 2;have hfz11_3 := blk_frozen BK101.out 3;have hfz11_4 := blk_frozen BK101.out 4;have hfz11_5 := blk_frozen BK101.out 5;have hfz11_6 := blk_frozen BK101.out 6;have hfz11_7 := blk_frozen BK101.out 7;have f8b := rem8 (bt a0 x5_1) (bt_nonneg _ _)
      have f8c := fit_cell BK101.out A9.out
      have f8p := eq_true f8b.1
      have f8q := eq_true f8b.2
      have huA := Tryd.underlying82
      clear f8b;go_wp2_with (first | ((with_reducible refine gate_builtin (b := .append) (xs := #[.tmp 14, .tmp 21]) rfl ?_); at_builtin; refine R_append (Kd.int .i32) (w0 := w) w.heap.size rfl (.tmp 14) (.tmp 21) 83 21 (.int .i32 0) 4 rfl Tryd.underlying83 info21 rfl (by decide) (by omega) u4 x4_1 t105 [.int .i32 t105] (fun _ => True) (fun _ => False) rfl rfl ?aP (fun _ hk => hk.elim) ?aF ?aO ?aB ?aS ?aL ?_; (case aP => exact rfl); (case aB => exact (zB HB)); (case aF => exact (fun _ _ => trivial)); (case aO => exact (zR HO_4)); (case aS => exact (below_size (zB HB))); (case aL => have := LMc10.out; omega); intro v107 w13 ho hb hg hat; rw [← Ny106.out] at ho; replace BK101 := Am (zW BK101 hg (R_ne HO_4.out BK101.out (by decide)));replace HB := Am (hb);have HO108 := Am (ho);clear HO_4; clear ho hb hg hat))
      go_roundg k1
      case measure => have := HK1.out; omega
      case rel => exact ⟨(y106), (wrap64 (x5_1 + 1)), zG, H', ⟨by have := HK1.out; omega⟩, ⟨(zR HO108)⟩, ⟨(zK BK101)⟩, ⟨(zB HB)⟩⟩
     ·rw [if_neg c10] at H;exact absurd H (by simp)
    ·rw [if_neg c7] at H;exact absurd H (by simp)
   ·rw [if_neg c6] at H;have c6b0 : decide (x5_1 < (a0.size : Int)) = false := decide_eq_false c6
    clear c6;replace H := Option.bind_eq_some_iff.mp H;obtain ⟨t109, A140, H⟩ := H;replace H : (some t109) = some r := H
    have A14 := Am A140;clear A140;obtain rfl := Option.some.inj H;obtain ⟨Ao15, co15, eo15⟩ := R_slice HO_4.out
    subst eo15
    go_wp2_with (first | ((with_reducible refine gate_callee (f := 65) rfl ?_); refine goesL_ (some 24) rfl rfl Tryd.func65 (by kernel_rfl) rfl #[.slice Ao15 x4_1.length co15] rfl zE ?_; (with_reducible refine (epitomeref01_Of.calls k1 _ _ x4_1 t109 _ ?side1 ?side2 A14.out).mono ?_); (case side1 => exact zI (R_reads' HO_4.out).2.2); (case side2 => exact (R_reads' HO_4.out).2.1); rintro e w16 ⟨rfl, hb⟩; refine ⟨_, rfl, ?_⟩; replace HO_4 := Am (R_below (zR HO_4) hb);replace BK101 := Am (zU BK101 hb);replace HB := Am (below_step (zB HB) hb); (try clear hb)))
    go_ret
    exact ⟨zF, (zB HB)⟩
end Go.Proofs.YtekjfodfedpioaaDoor.F
end
section
namespace Go.Proofs.YtekjfodfedpioaaDoor.F
open Go.RowKit Go.Proofs.YtekjfodfedpioaaDoorW.PrintWords Go.Proofs.YtekjfodfedpioaaDoorW.PrintLast Go.Proofs.YtekjfodfedpioaaDoorW.PrintMore
attribute [local go_sem] max2_int min2_int max_two min_two max_three min_three max_four min_four cell_setCell_isSome
set_option linter.unusedVariables false
set_option linter.unusedSimpArgs false
open Kd
mutual
def epitomeref04_Fit.l0 : Nat → List (S55) → Int → List (S55) → Int → Option ((List (S55)))
  | 0, _, _, _, _ => none
  | k + 1, x0, x1, x5, x6 => if x6 < (x0.length : Int) then (epitomeref04_Fit.j1 k x0 x1 x5 x6 (decide (x6 < 12))) else (epitomeref04_Fit.j1 k x0 x1 x5 x6 false)
def epitomeref04_Fit.j1 : Nat → List (S55) → Int → List (S55) → Int → Bool → Option ((List (S55)))
  | 0, _, _, _, _, _ => none
  | k + 1, x0, x1, x5, x6, x16 => if x16 = true then (if 0 ≤ x6 then (if x6 < (x0.length : Int) then (if (wrap64 (1 + (Int.tmod (wrap64 ((Int.tmod ((rd_T55 x0 x6).f0) 3) + 3)) 3))) = 2 then (if 0 ≤ (mn (((rd_T55 x0 x6).f2).size : Int) 6) then (if (mn (((rd_T55 x0 x6).f2).size : Int) 6) ≤ (((rd_T55 x0 x6).f2).size : Int) then ((epitomeref01_Fit.f k (((rd_T55 x0 x6).f2).extract 0 ((mn (((rd_T55 x0 x6).f2).size : Int) 6) : Int).toNat)).bind fun t108 => (if x5.length < 4398046511104 then (epitomeref04_Fit.l0 k x0 x1 (x5 ++ [(⟨wrap64 (1 + (Int.tmod (wrap64 ((Int.tmod ((rd_T55 x0 x6).f0) 3) + 3)) 3)), 0, t108⟩ : S55)]) (wrap64 (x6 + 1))) else (none))) else (none)) else (none)) else (if x5.length < 4398046511104 then (epitomeref04_Fit.l0 k x0 (wrap64 (x1 - (mn (Int.tmod (wrap64 ((Int.tmod ((rd_T55 x0 x6).f1) 7) + 7)) 7) x1))) (x5 ++ [(⟨wrap64 (1 + (Int.tmod (wrap64 ((Int.tmod ((rd_T55 x0 x6).f0) 3) + 3)) 3)), mn (Int.tmod (wrap64 ((Int.tmod ((rd_T55 x0 x6).f1) 7) + 7)) 7) x1, (⟨#[]⟩ : ByteArray)⟩ : S55)]) (wrap64 (x6 + 1))) else (none))) else (none)) else (none)) else (if x1 > 0 then (if x5.length < 4398046511104 then (some (x5 ++ [(⟨1, x1, (⟨#[]⟩ : ByteArray)⟩ : S55)])) else (none)) else (some x5))
end
def epitomeref04_Fit.f (k : Nat) (l0 : List (S55)) (a1 : Int) : Option ((List (S55))) := epitomeref04_Fit.l0 k l0 a1 (([] : List (S55))) 0
theorem epitomeref04_Fit.mono_l : ∀ k, (∀ y0 y1 y2 y3, LeO (epitomeref04_Fit.l0 k y0 y1 y2 y3) (epitomeref04_Fit.l0 (k + 1) y0 y1 y2 y3)) ∧ (∀ y0 y1 y2 y3 y4, LeO (epitomeref04_Fit.j1 k y0 y1 y2 y3 y4) (epitomeref04_Fit.j1 (k + 1) y0 y1 y2 y3 y4))
  | 0 => ⟨fun _ _ _ _ r h => by simp [epitomeref04_Fit.l0] at h, fun _ _ _ _ _ r h => by simp [epitomeref04_Fit.j1] at h⟩
  | k + 1 => by
    obtain ⟨ih0, ih1⟩ := epitomeref04_Fit.mono_l k
    refine ⟨?_, ?_⟩
    · intro y0 y1 y2 y3
      unfold epitomeref04_Fit.l0
      repeat' first
      | (with_reducible exact ih0 _ _ _ _)
      | (with_reducible exact ih1 _ _ _ _ _)
      | (with_reducible exact epitomeref01_Fit.mono _ _)
      | (with_reducible exact LeO.refl _)
      | (with_reducible exact LeO.none _)
      | (with_reducible refine LeO.ite ?_ ?_)
      | (with_reducible refine LeO.bind ?_ (fun _ => ?_))
      | exact ih0 _ _ _ _
      | exact ih1 _ _ _ _ _
      | exact epitomeref01_Fit.mono _ _
      | exact LeO.none _
      | refine LeO.ite ?_ ?_
      | refine LeO.bind ?_ (fun _ => ?_)
    · intro y0 y1 y2 y3 y4
      unfold epitomeref04_Fit.j1
      repeat' first
      | (with_reducible exact ih0 _ _ _ _)
      | (with_reducible exact ih1 _ _ _ _ _)
      | (with_reducible exact epitomeref01_Fit.mono _ _)
      | (with_reducible exact LeO.refl _)
      | (with_reducible exact LeO.none _)
      | (with_reducible refine LeO.ite ?_ ?_)
      | (with_reducible refine LeO.bind ?_ (fun _ => ?_))
      | exact ih0 _ _ _ _
      | exact ih1 _ _ _ _ _
      | exact epitomeref01_Fit.mono _ _
      | exact LeO.none _
      | refine LeO.ite ?_ ?_
      | refine LeO.bind ?_ (fun _ => ?_)
theorem epitomeref04_Fit.mono : ∀ a0 a1 k, LeO (epitomeref04_Fit.f k a0 a1) (epitomeref04_Fit.f (k + 1) a0 a1) := by
  intro a0 a1 k
  obtain ⟨ih0, ih1⟩ := epitomeref04_Fit.mono_l k
  unfold epitomeref04_Fit.f
  repeat' first
      | (with_reducible exact ih0 _ _ _ _)
      | (with_reducible exact ih1 _ _ _ _ _)
      | (with_reducible exact epitomeref01_Fit.mono _ _)
      | (with_reducible exact LeO.refl _)
      | (with_reducible exact LeO.none _)
      | (with_reducible refine LeO.ite ?_ ?_)
      | (with_reducible refine LeO.bind ?_ (fun _ => ?_))
      | exact ih0 _ _ _ _
      | exact ih1 _ _ _ _ _
      | exact epitomeref01_Fit.mono _ _
      | exact LeO.none _
      | refine LeO.ite ?_ ?_
      | refine LeO.bind ?_ (fun _ => ?_)
def epitomeref04_Fit.T7 : Bool × List (List Nat × List Nat) := (true, [([], []), ([], []), ([0, 1], [0, 1]), ([2], [2]), ([3], [3]), ([], []), ([], []), ([5, 6], [5, 6]), ([7], [7]), ([8], [8]), ([9], [9]), ([10], [10]), ([4, 11], [4, 11]), ([12], [12]), ([0, 1, 2, 3, 4, 5, 6, 7, 8, 9, 10, 11, 12, 13], []), ([14, 13, 13, 0, 1, 2, 3, 4, 5, 6, 7, 8, 9, 10, 11, 12, 13], [13, 14])])
def epitomeref04_Fit.B7 : List Nat := [0, 0, 3, 7, 15, 0, 0, 96, 224, 480, 992, 2016, 4095, 8191, 16383, 32767]
theorem epitomeref04_Fit.tab7 : rtab .any (opsOf Tryd.f10 7) = epitomeref04_Fit.T7 := by kernel_rfl
theorem epitomeref04_Fit.bits7 : waitsOk epitomeref04_Fit.T7.2 epitomeref04_Fit.B7 = true := by kernel_rfl
set_option maxHeartbeats 40000000 in
set_option maxRecDepth 100000 in
theorem epitomeref04_Fit.calls (k : Nat) (A0 : Option Addr) (c0 : Nat) (l0 : List (S55)) (a1 : Int) (r : List (S55)) (w : World) (hr0 : Kd.C k55 w A0 l0.length l0) (hc0 : l0.length ≤ c0) (h : epitomeref04_Fit.f k l0 a1 = some r) :
  Calls Tryd.prog 10 #[.slice A0 l0.length c0, .int .i64 a1] w fun e w' => ∃ v0_ : Value, e = .returned (v0_) ∧ Kd.R k55 55 w' w.heap.size (fun _ => True) v0_ r ∧ Below w.heap.size w w' := by
 have hu55 := Tryd.underlying55
 have HR0 := Am hr0;have HC0 := Am hc0;clear hr0 hc0;have HB := Am (Below.refl w.heap.size w)
 have H : (epitomeref04_Fit.l0 k l0 a1 (([] : List (S55))) 0) = some r := h
 clear h;obtain ⟨y101, hy101⟩ : ∃ y_ : List (S55), y_ = (([] : List (S55))) := ⟨_, rfl⟩
 replace H : (epitomeref04_Fit.l0 k l0 a1 y101 0) = some r := by first | (rw [hy101]; with_reducible exact H) | (have H2_ := (Option.bind_some _ _).symm.trans H; rw [hy101]; with_reducible exact H2_) | (have H2_ := (Option.bind_some _ _).symm.trans H; with_reducible exact H2_) | with_reducible exact H | (rw [hy101]; exact H) | exact H
 have Ny101 := Am hy101;clear hy101;have H' := Am H
 clear H;go_enter Tryd.func10, Tryd.ntmps10
 go_wp2_with (first | ((with_reducible refine gate_dst (N := 8) rfl ?_); refine R_lit k55 _ 55 ?hg (N := 8) ?hd (xs := ([] : List (S55))) (inner := []) (ok := fun _ => True) (okp := fun _ => True) ?hr ?hp (fun _ hk => hk) trivial (Below.refl _ _) (Nat.le_refl _) (by simp) ?_; (case hd => rfl); (case hg => rfl); (case hr => first | (go_simp; done) | (go_simp; rfl)); (case hp => exact (Reps.none _ _)); intro v102 w3 ho4 hb hg_ hnew_; clear hg_ hnew_; (first | rw [← Ny101.out] at ho4 | (simp only [Int.reduceToNat] at ho4; rw [← Ny101.out] at ho4)); have HO103 := Am (R_lower ho4 (below_size (zB HB)));replace HB := Am (below_step (zB HB) hb); clear hb ho4))
 go_loopg [1, 5, 6] k (fun kq v1 v5 v6 w' => ∃ (x1_1 : Int) (x5_1 : List (S55)) (x6_1 : Int), v1 = .int .i64 x1_1 ∧ v6 = .int .i64 x6_1 ∧ Aside0 (epitomeref04_Fit.l0 kq l0 x1_1 x5_1 x6_1 = some r) ∧ Aside0 (kq ≤ k) ∧ Aside0 (Kd.R k55 55 w' w.heap.size (fun _ => True) v5 x5_1) ∧ Aside0 (Below w.heap.size w w'))
 case atStart => exact ⟨(a1), (y101), (0), zG, zG, H', ⟨Nat.le_refl _⟩, ⟨(zR HO103)⟩, ⟨(zB HB)⟩⟩
 case round =>
  clear H';(try clear c1);(try clear p2);obtain ⟨x1_1, x5_1, x6_1, rfl, rfl, HA, HK1, HO_5, HB⟩ := hrel
  cases gk with
  | zero => exact absurd HA.out (by simp [epitomeref04_Fit.l0])
  | succ k1 =>
   have H := HA.out;clear HA;simp only [epitomeref04_Fit.l0] at H
   have HC5 := Am H;clear H;go_upto_region 3 with (fail)
   go_cut [16] (fun v16 wc => ∃ (kq : Nat) (x16_4 : Bool), v16 = .bool x16_4 ∧ Aside0 (epitomeref04_Fit.j1 kq l0 x1_1 x5_1 x6_1 x16_4 = some r) ∧ Aside0 (kq ≤ k1) ∧ Aside0 (Kd.R k55 55 wc w.heap.size (fun _ => True) u5 x5_1) ∧ Aside0 (Below w.heap.size w wc))
   case first =>
    have H := HC5.out;clear HC5;by_cases c6 : x6_1 < (l0.length : Int)
    ·rw [if_pos c6] at H;have c6b0 : decide (x6_1 < (l0.length : Int)) = true := decide_eq_true c6
     clear c6;(first | rw [c6b0] | (simp only [i64_w, i32_w]; rw [c6b0]) | skip)
     have H' := Am H
     clear H;go_wp2
     go_meet
     case rel => exact ⟨_, (decide (x6_1 < 12)), zG, H', ⟨by have := HK1.out; first | omega | exact Nat.le_refl _⟩, ⟨(zR HO_5)⟩, ⟨(zB HB)⟩⟩
    ·rw [if_neg c6] at H;have c6b0 : decide (x6_1 < (l0.length : Int)) = false := decide_eq_false c6
     clear c6;(first | rw [c6b0] | (simp only [i64_w, i32_w]; rw [c6b0]) | skip)
     have H' := Am H
     clear H;go_wp2
     go_meet
     case rel => exact ⟨_, (false), zG, H', ⟨by have := HK1.out; first | omega | exact Nat.le_refl _⟩, ⟨(zR HO_5)⟩, ⟨(zB HB)⟩⟩
   case rest =>
    clear HC5;(try clear c1);(try clear p2);(try clear c6);(try clear c6b0);(try clear p2);obtain ⟨kq, x16_4, rfl, HA, HJ4, HO_5, HB⟩ := hcut
    cases kq with
    | zero => exact absurd HA.out (by simp [epitomeref04_Fit.j1])
    | succ kj4 =>
     have H := HA.out;clear HA;simp only [epitomeref04_Fit.j1] at H
     by_cases c7 : x16_4 = true
     ·subst c7
      have H1 : (if 0 ≤ x6_1 then (if x6_1 < (l0.length : Int) then (if (wrap64 (1 + (Int.tmod (wrap64 ((Int.tmod ((rd_T55 l0 x6_1).f0) 3) + 3)) 3))) = 2 then (if 0 ≤ (mn (((rd_T55 l0 x6_1).f2).size : Int) 6) then (if (mn (((rd_T55 l0 x6_1).f2).size : Int) 6) ≤ (((rd_T55 l0 x6_1).f2).size : Int) then ((epitomeref01_Fit.f kj4 (((rd_T55 l0 x6_1).f2).extract 0 ((mn (((rd_T55 l0 x6_1).f2).size : Int) 6) : Int).toNat)).bind fun t108 => (if x5_1.length < 4398046511104 then (epitomeref04_Fit.l0 kj4 l0 x1_1 (x5_1 ++ [(⟨wrap64 (1 + (Int.tmod (wrap64 ((Int.tmod ((rd_T55 l0 x6_1).f0) 3) + 3)) 3)), 0, t108⟩ : S55)]) (wrap64 (x6_1 + 1))) else (none))) else (none)) else (none)) else (if x5_1.length < 4398046511104 then (epitomeref04_Fit.l0 kj4 l0 (wrap64 (x1_1 - (mn (Int.tmod (wrap64 ((Int.tmod ((rd_T55 l0 x6_1).f1) 7) + 7)) 7) x1_1))) (x5_1 ++ [(⟨wrap64 (1 + (Int.tmod (wrap64 ((Int.tmod ((rd_T55 l0 x6_1).f0) 3) + 3)) 3)), mn (Int.tmod (wrap64 ((Int.tmod ((rd_T55 l0 x6_1).f1) 7) + 7)) 7) x1_1, (⟨#[]⟩ : ByteArray)⟩ : S55)]) (wrap64 (x6_1 + 1))) else (none))) else (none)) else (none)) = some r := by rw [if_pos rfl] at H; exact H
      clear H;have H := H1
      clear H1;by_cases c8 : 0 ≤ x6_1
      ·rw [if_pos c8] at H;have c8b0 : decide (0 ≤ x6_1) = true := decide_eq_true c8
       clear c8;by_cases c9 : x6_1 < (l0.length : Int)
       ·rw [if_pos c9] at H;have c9b0 : decide (x6_1 < (l0.length : Int)) = true := decide_eq_true c9
        clear c9;by_cases c10 : (wrap64 (1 + (Int.tmod (wrap64 ((Int.tmod ((rd_T55 l0 x6_1).f0) 3) + 3)) 3))) = 2
        ·rw [if_pos c10] at H;have c10b0 : ((wrap64 (1 + (Int.tmod (wrap64 ((Int.tmod ((rd_T55 l0 x6_1).f0) 3) + 3)) 3))) == 2) = true := beq_iff_eq.mpr c10
         have c10b1 : ((wrap64 (1 + (Int.tmod (wrap64 ((Int.tmod ((rd_T55 l0 x6_1).f0) 3) + 3)) 3))) != 2) = false := bne_eq_false_iff_eq.mpr c10
         clear c10;obtain ⟨ji11, hji11⟩ : ∃ j_ : Int, (mn (((rd_T55 l0 x6_1).f2).size : Int) 6) = j_ := ⟨_, rfl⟩
         replace H : (if 0 ≤ (ji11) then (if (ji11) ≤ (((rd_T55 l0 x6_1).f2).size : Int) then ((epitomeref01_Fit.f kj4 (((rd_T55 l0 x6_1).f2).extract 0 ((ji11) : Int).toNat)).bind fun t108 => (if x5_1.length < 4398046511104 then (epitomeref04_Fit.l0 kj4 l0 x1_1 (x5_1 ++ [(⟨wrap64 (1 + (Int.tmod (wrap64 ((Int.tmod ((rd_T55 l0 x6_1).f0) 3) + 3)) 3)), 0, t108⟩ : S55)]) (wrap64 (x6_1 + 1))) else (none))) else (none)) else (none)) = some r := by first | (rw [hji11] at H; exact H) | (simp only [hji11] at H ⊢; exact H)
         have hji11_ : (if 6 < (((rd_T55 l0 x6_1).f2).size : Int) then 6 else (((rd_T55 l0 x6_1).f2).size : Int)) = ji11 := hji11
         by_cases c12 : 0 ≤ (ji11)
         ·rw [if_pos c12] at H;have c12b0 := eq_true c12
          have c12b1 : decide (0 ≤ (ji11)) = true := decide_eq_true c12
          clear c12;by_cases c13 : (ji11) ≤ (((rd_T55 l0 x6_1).f2).size : Int)
          ·rw [if_pos c13] at H;have c13b0 := eq_true c13
           have c13b1 : decide ((ji11) ≤ (((rd_T55 l0 x6_1).f2).size : Int)) = true := decide_eq_true c13
           clear c13;replace H := Option.bind_eq_some_iff.mp H;obtain ⟨t108, A140, H⟩ := H;have A14 := Am A140;clear A140;by_cases c15 : x5_1.length < 4398046511104
           ·rw [if_pos c15] at H;have LMc15 := Am c15;clear c15;obtain ⟨y109, hy109⟩ : ∃ y_ : List (S55), y_ = (x5_1 ++ [(⟨wrap64 (1 + (Int.tmod (wrap64 ((Int.tmod ((rd_T55 l0 x6_1).f0) 3) + 3)) 3)), 0, t108⟩ : S55)]) := ⟨_, rfl⟩
            replace H : (epitomeref04_Fit.l0 kj4 l0 x1_1 y109 (wrap64 (x6_1 + 1))) = some r := by first | (rw [hy109]; with_reducible exact H) | (have H2_ := (Option.bind_some _ _).symm.trans H; rw [hy109]; with_reducible exact H2_) | (have H2_ := (Option.bind_some _ _).symm.trans H; with_reducible exact H2_) | with_reducible exact H | (rw [hy109]; exact H) | exact H
            have Ny109 := Am hy109;clear hy109;have H' := Am H
            clear H;have p104 : 0 ≤ (x6_1 : Int) := of_decide_eq_true (by assumption)
            have q104 : x6_1 < (l0.length : Int) := of_decide_eq_true (by assumption)
            obtain ⟨ad104, e104, hx104_0, hx104_1, hx104_2⟩ := at_T55 HR0.out x6_1 p104 q104
            cases e104
            replace hx104_0 := (HB.out.cell (World.block_lt_of_cell? w _ hx104_0)).trans hx104_0
            replace hx104_1 := (HB.out.cell (World.block_lt_of_cell? w _ hx104_1)).trans hx104_1
            replace hx104_2 := (HB.out.cell (World.block_lt_of_cell? w _ hx104_2)).trans hx104_2
            replace p104 := eq_true p104;replace q104 := eq_true q104;try go_wp2_with (first | ((with_reducible refine gate_dst (N := 7) rfl ?_); refine box_event ?hg (N := 7) ?hd (cs := #[.int .i64 0, .int .i64 0, .string (⟨#[]⟩ : ByteArray)]) (t := 55) ?hr ?_; (case hd => rfl); (case hg => rfl); (case hr => first | (go_simp; done) | (go_simp; rfl)); intro gb105 hg w16 hbox hb; replace HO_5 := Am (R_below (R_elderB (zR HO_5) gb105 (Nat.le_of_eq hg.symm)) hb);have BK105 := Am (hbox);have GW105 := Am (zO (w := w) HB hg);have GE105 := Am (zO (w := w) HB hg);replace HB := Am (below_step (zB HB) hb); clear hb hbox hg; obtain ⟨hcz17_0, hcz17_1, hcz17_2, hfz17_0, hfz17_1, hfz17_2⟩ := zc3 BK105))
            have n0_ : Aside0 (Kd.R k55 55 (((w16.setCell ⟨gb105, 0, none⟩ (.int .i64 (wrap64 (1 + (Int.tmod (wrap64 ((Int.tmod ((rd_T55 l0 x6_1).f0) 3) + 3)) 3))))).setCell ⟨gb105, 1, none⟩ (.int .i64 0)).setCell ⟨gb105, 2, none⟩ (.string (⟨#[]⟩ : ByteArray))) w.heap.size (fun k_ => k_ ≠ gb105) u5 x5_1) := ⟨by (with_reducible repeat (first | apply R_alloc | apply R_drewN | apply R_drew)); exact R_mono (zY (R_mono HO_5.out (fun k_ hk => (⟨hk, hk.2⟩ : _ ∧ k_ ≠ gb105))) gb105 (fun _ hk => hk.2) (.int .i64 (wrap64 (1 + (Int.tmod (wrap64 ((Int.tmod ((rd_T55 l0 x6_1).f0) 3) + 3)) 3)))) (.int .i64 0) (.string (⟨#[]⟩ : ByteArray))) (fun _ hk => hk.1.2)⟩
            have n1_ : Aside0 ((((w16.setCell ⟨gb105, 0, none⟩ (.int .i64 (wrap64 (1 + (Int.tmod (wrap64 ((Int.tmod ((rd_T55 l0 x6_1).f0) 3) + 3)) 3))))).setCell ⟨gb105, 1, none⟩ (.int .i64 0)).setCell ⟨gb105, 2, none⟩ (.string (⟨#[]⟩ : ByteArray))).heap[gb105]? = some (.cells #[.int .i64 (wrap64 (1 + (Int.tmod (wrap64 ((Int.tmod ((rd_T55 l0 x6_1).f0) 3) + 3)) 3))), .int .i64 0, .string (⟨#[]⟩ : ByteArray)] 55 (0, 0))) := ⟨(zP BK105)⟩
            have n2_ : Aside0 (Below w.heap.size w (((w16.setCell ⟨gb105, 0, none⟩ (.int .i64 (wrap64 (1 + (Int.tmod (wrap64 ((Int.tmod ((rd_T55 l0 x6_1).f0) 3) + 3)) 3))))).setCell ⟨gb105, 1, none⟩ (.int .i64 0)).setCell ⟨gb105, 2, none⟩ (.string (⟨#[]⟩ : ByteArray)))) := ⟨(zB HB)⟩
            (try clear HO_5);(try clear BK105);(try clear HB);generalize (((w16.setCell ⟨gb105, 0, none⟩ (.int .i64 (wrap64 (1 + (Int.tmod (wrap64 ((Int.tmod ((rd_T55 l0 x6_1).f0) 3) + 3)) 3))))).setCell ⟨gb105, 1, none⟩ (.int .i64 0)).setCell ⟨gb105, 2, none⟩ (.string (⟨#[]⟩ : ByteArray))) = w18 at n0_ n1_ n2_ ⊢
            have HO_5 := n0_;have BK105 := n1_;have HB := n2_;clear n0_ n1_ n2_;replace HO_5 := Am (R_drew HO_5.out);replace BK105 := Am (blk_drew BK105.out);replace HB := Am (below_drew1 HB.out);have p106 : 0 ≤ (x6_1 : Int) := of_decide_eq_true (by assumption)
            have q106 : x6_1 < (l0.length : Int) := of_decide_eq_true (by assumption)
            obtain ⟨ad106, e106, hx106_0, hx106_1, hx106_2⟩ := at_T55 HR0.out x6_1 p106 q106
            have hw106_2 := hx106_2
            have hw106_1 := hx106_1
            have hw106_0 := hx106_0
            obtain rfl : ad104 = ad106 := (by injection e106)
            replace hx106_0 := (HB.out.cell (World.block_lt_of_cell? w _ hx106_0)).trans hx106_0
            replace hx106_1 := (HB.out.cell (World.block_lt_of_cell? w _ hx106_1)).trans hx106_1
            replace hx106_2 := (HB.out.cell (World.block_lt_of_cell? w _ hx106_2)).trans hx106_2
            replace p106 := eq_true p106;replace q106 := eq_true q106;have p107 : 0 ≤ (x6_1 : Int) := of_decide_eq_true (by assumption)
            have q107 : x6_1 < (l0.length : Int) := of_decide_eq_true (by assumption)
            obtain ⟨ad107, e107, hx107_0, hx107_1, hx107_2⟩ := at_T55 HR0.out x6_1 p107 q107
            have hw107_2 := hx107_2
            have hw107_1 := hx107_1
            have hw107_0 := hx107_0
            obtain rfl : ad104 = ad107 := (by injection e107)
            replace hx107_0 := (HB.out.cell (World.block_lt_of_cell? w _ hx107_0)).trans hx107_0
            replace hx107_1 := (HB.out.cell (World.block_lt_of_cell? w _ hx107_1)).trans hx107_1
            replace hx107_2 := (HB.out.cell (World.block_lt_of_cell? w _ hx107_2)).trans hx107_2
            replace p107 := eq_true p107;replace q107 := eq_true q107;refine start_ (n := 16) (S := fun w' => w'.cell? (ad104.add ((x6_1).toNat * 3)) = some (.int .i64 ((rd_T55 l0 x6_1).f0)) ∧ w'.cell? ⟨(ad104.add ((x6_1).toNat * 3)).block, (ad104.add ((x6_1).toNat * 3)).off + 1, none⟩ = some (.int .i64 ((rd_T55 l0 x6_1).f1)) ∧ w'.cell? ⟨(ad104.add ((x6_1).toNat * 3)).block, (ad104.add ((x6_1).toNat * 3)).off + 2, none⟩ = some (.string ((rd_T55 l0 x6_1).f2)) ∧ w'.cell? (ad104.add ((x6_1).toNat * 3)) = some (.int .i64 ((rd_T55 l0 x6_1).f0)) ∧ w'.cell? ⟨(ad104.add ((x6_1).toNat * 3)).block, (ad104.add ((x6_1).toNat * 3)).off + 1, none⟩ = some (.int .i64 ((rd_T55 l0 x6_1).f1)) ∧ w'.cell? ⟨(ad104.add ((x6_1).toNat * 3)).block, (ad104.add ((x6_1).toNat * 3)).off + 2, none⟩ = some (.string ((rd_T55 l0 x6_1).f2))) (ds := []) #[false, false, false, false, false, false, false, false, false, false, false, false, false, false, false, false] (by kernel_rfl) rfl rfl ⟨((HB.out.cell (World.block_lt_of_cell? w _ hw106_0)).trans hw106_0), ((HB.out.cell (World.block_lt_of_cell? w _ hw106_1)).trans hw106_1), ((HB.out.cell (World.block_lt_of_cell? w _ hw106_2)).trans hw106_2), ((HB.out.cell (World.block_lt_of_cell? w _ hw107_0)).trans hw107_0), ((HB.out.cell (World.block_lt_of_cell? w _ hw107_1)).trans hw107_1), ((HB.out.cell (World.block_lt_of_cell? w _ hw107_2)).trans hw107_2)⟩ (fun hHeld => ?_); refine with_tabW epitomeref04_Fit.tab7 epitomeref04_Fit.bits7 (fun HT_ HW_ => ?_)
            generalize w18.drew = w19 at HO_5 BK105 HB hx106_0 hx106_1 hx106_2 hx107_0 hx107_1 hx107_2 hHeld ⊢
            refine pure_ (i := 0) (N := some 32) (v := ?_) (a' := ?_) #[true, false, false, false, false, false, false, false, false, false, false, false, false, false, false, false] rfl rfl (any_of HT_.out (by kernel_rfl)) (fun _ _ _ h => h) (Or.inl ⟨by rfl, ?_⟩) ?_ ?_
            rotate_left
            ·intro w'
             go_simp;with_reducible rfl
            rotate_left
            ·simp only [Act.put, zS, i64_w, i32_w]
             rfl
            refine pure_ (i := 1) (N := some 33) (v := ?_) (a' := ?_) #[true, true, false, false, false, false, false, false, false, false, false, false, false, false, false, false] rfl rfl (any_of HT_.out (by kernel_rfl)) (fun _ _ _ h => h) (Or.inl ⟨by rfl, ?_⟩) ?_ ?_
            rotate_left
            ·intro w'
             go_simp;with_reducible rfl
            rotate_left
            ·simp only [Act.put, zS, i64_w, i32_w]
             rfl
            refine pure_ (i := 2) (N := some 34) (v := ?_) (a' := ?_) #[true, true, true, false, false, false, false, false, false, false, false, false, false, false, false, false] rfl rfl (any_of HT_.out (by kernel_rfl)) (fun _ _ _ h => h) (Or.inl ⟨by rfl, ?_⟩) ?_ ?_
            rotate_left
            ·intro w'
             go_simp;with_reducible rfl
            rotate_left
            ·simp only [Act.put, zS, i64_w, i32_w]
             rfl
            refine pure_ (i := 3) (N := some 35) (v := ?_) (a' := ?_) #[true, true, true, true, false, false, false, false, false, false, false, false, false, false, false, false] rfl rfl (any_of HT_.out (by kernel_rfl)) (fun _ _ _ h => h) (Or.inl ⟨by rfl, ?_⟩) ?_ ?_
            rotate_left
            ·intro w'
             go_simp;with_reducible rfl
            rotate_left
            ·simp only [Act.put, zS, i64_w, i32_w]
             rfl
            refine pure_ (i := 5) (N := some 37) (v := ?_) (a' := ?_) #[true, true, true, true, false, true, false, false, false, false, false, false, false, false, false, false] rfl rfl (any_of HT_.out (by kernel_rfl)) (fun _ _ _ h => h) (Or.inl ⟨by rfl, ?_⟩) ?_ ?_
            rotate_left
            ·intro w'
             go_simp;with_reducible rfl
            rotate_left
            ·simp only [Act.put, zS, i64_w, i32_w]
             rfl
            refine pure_ (i := 6) (N := some 38) (v := ?_) (a' := ?_) #[true, true, true, true, false, true, true, false, false, false, false, false, false, false, false, false] rfl rfl (any_of HT_.out (by kernel_rfl)) (fun _ _ _ h => h) (Or.inl ⟨by rfl, ?_⟩) ?_ ?_
            rotate_left
            ·intro w'
             go_simp;with_reducible rfl
            rotate_left
            ·simp only [Act.put, zS, i64_w, i32_w]
             rfl
            refine pure_ (i := 7) (N := some 39) (v := ?_) (a' := ?_) #[true, true, true, true, false, true, true, true, false, false, false, false, false, false, false, false] rfl rfl (any_of HT_.out (by kernel_rfl)) (fun _ _ _ h => h) (Or.inl ⟨by rfl, ?_⟩) ?_ ?_
            rotate_left
            ·intro w'
             go_simp;with_reducible rfl
            rotate_left
            ·simp only [Act.put, zS, i64_w, i32_w]
             rfl
            refine pure_ (i := 8) (N := some 40) (v := ?_) (a' := ?_) #[true, true, true, true, false, true, true, true, true, false, false, false, false, false, false, false] rfl rfl (any_of HT_.out (by kernel_rfl)) (fun _ _ _ h => h) (Or.inl ⟨by rfl, ?_⟩) ?_ ?_
            rotate_left
            ·intro w'
             go_simp;with_reducible rfl
            rotate_left
            ·simp only [Act.put, zS, i64_w, i32_w]
             rfl
            refine take_ (i := 4) (N := some 36) (v := ?_) (a' := ?_) #[true, true, true, true, true, true, true, true, true, false, false, false, false, false, false, false] rfl rfl (take_ofW HT_.out HW_.out (by kernel_rfl)) (fun _ _ _ h => h) (Or.inl ⟨by rfl, ?_⟩) hHeld ?_ ?_
            rotate_left
            ·rintro w' ⟨s0, s1, s2, s3, s4, s5⟩
             go_simp;with_reducible rfl
            rotate_left
            ·simp only [Act.put, zS, i64_w, i32_w]
             rfl
            refine take_ (i := 9) (N := some 41) (v := ?_) (a' := ?_) #[true, true, true, true, true, true, true, true, true, true, false, false, false, false, false, false] rfl rfl (take_ofW HT_.out HW_.out (by kernel_rfl)) (fun _ _ _ h => h) (Or.inl ⟨by rfl, ?_⟩) hHeld ?_ ?_
            rotate_left
            ·rintro w' ⟨s0, s1, s2, s3, s4, s5⟩
             go_simp;with_reducible rfl
            rotate_left
            ·simp only [Act.put, zS, i64_w, i32_w]
             rfl
            refine pure_ (i := 10) (N := some 42) (v := ?_) (a' := ?_) #[true, true, true, true, true, true, true, true, true, true, true, false, false, false, false, false] rfl rfl (any_of HT_.out (by kernel_rfl)) (fun _ _ _ h => h) (Or.inl ⟨by rfl, ?_⟩) ?_ ?_
            rotate_left
            ·intro w'
             go_simp;with_reducible rfl
            rotate_left
            ·simp only [Act.put, zS, i64_w, i32_w]
             rfl
            refine pure_ (i := 11) (N := some 43) (v := ?_) (a' := ?_) #[true, true, true, true, true, true, true, true, true, true, true, true, false, false, false, false] rfl rfl (any_of HT_.out (by kernel_rfl)) (fun _ _ _ h => h) (Or.inl ⟨by rfl, ?_⟩) ?_ ?_
            rotate_left
            ·intro w'
             go_simp;with_reducible rfl
            rotate_left
            ·simp only [Act.put, zS, i64_w, i32_w]
             rfl
            refine pure_ (i := 12) (N := some 44) (v := ?_) (a' := ?_) #[true, true, true, true, true, true, true, true, true, true, true, true, true, false, false, false] rfl rfl (any_of HT_.out (by kernel_rfl)) (fun _ _ _ h => h) (Or.inl ⟨by rfl, ?_⟩) ?_ ?_
            rotate_left
            ·intro w'
             go_simp;with_reducible rfl
            rotate_left
            ·simp only [Act.put, zS, i64_w, i32_w]
             rfl
            refine one_ (i := 13) (N := some 45) #[true, true, true, true, true, true, true, true, true, true, true, true, true, true, false, false] rfl rfl (one_of HT_.out (by kernel_rfl)) (by decide) (fun K hK => ?_)
            refine goes_ Tryd.func36 (by kernel_rfl) rfl #[.string (((rd_T55 l0 x6_1).f2).extract 0 ((ji11) : Int).toNat)] (by rfl) rfl rfl (by (try simp only [List.map_toArray, List.map_cons, List.map_nil]); first | done | (simp only [hji11]; rfl) | rfl | (simp only [List.length_drop, List.length_take]; rfl)) ?_
            with_reducible refine (epitomeref01_Fit.calls kj4 (((rd_T55 l0 x6_1).f2).extract 0 ((ji11) : Int).toNat) t108 _ A14.out).mono ?_
            rintro e w20 ⟨rfl, hb⟩
            refine ⟨_, rfl, ?_⟩
            replace HO_5 := Am (R_below (zR HO_5) hb);replace BK105 := Am (zU BK105 hb);replace HB := Am (below_step (zB HB) hb);(try clear hb);(try clear hb2);(try clear hk);(try clear hi);refine hK.out _ _ ⟨((HB.out.cell (World.block_lt_of_cell? w _ hw106_0)).trans hw106_0), ((HB.out.cell (World.block_lt_of_cell? w _ hw106_1)).trans hw106_1), ((HB.out.cell (World.block_lt_of_cell? w _ hw106_2)).trans hw106_2), ((HB.out.cell (World.block_lt_of_cell? w _ hw107_0)).trans hw107_0), ((HB.out.cell (World.block_lt_of_cell? w _ hw107_1)).trans hw107_1), ((HB.out.cell (World.block_lt_of_cell? w _ hw107_2)).trans hw107_2)⟩ (fun hHeld => ?_)
            clear hK K;refine norm_ (a' := ?_) ?_ ?_
            rotate_left
            ·show Act.put _ (some 45) _ = _
             simp only [Act.put, zS, i64_w, i32_w]
             rfl
            refine pure_ (i := 14) (N := some 46) (v := ?_) (a' := ?_) #[true, true, true, true, true, true, true, true, true, true, true, true, true, true, true, false] rfl rfl (any_of HT_.out (by kernel_rfl)) (fun _ _ _ h => h) (Or.inl ⟨by rfl, ?_⟩) ?_ ?_
            rotate_left
            ·intro w'
             go_simp;with_reducible rfl
            rotate_left
            ·simp only [Act.put, zS, i64_w, i32_w]
             rfl
            refine one_ (i := 15) (N := none) #[true, true, true, true, true, true, true, true, true, true, true, true, true, true, true, true] rfl rfl (one_of HT_.out (by kernel_rfl)) (by decide) (fun K hK => ?_)
            have hs21 : w20.cell? ⟨gb105, 2, none⟩ = some (.string (⟨#[]⟩ : ByteArray)) := (blk_cell BK105.out 2).trans rfl
            have hfs21 := blk_frozen BK105.out 2;refine skip_ (w1 := ?_) (by rfl) rfl ?_ ?_
            rotate_left
            ·go_simp;rfl
            refine hK.out _ _ ⟨((cell_far (p := ⟨gb105, _, none⟩) (by first | exact Nat.ne_of_lt (Nat.lt_of_lt_of_le (by have := World.block_lt_of_cell? _ _ hw106_0; first | rwa [add_block] at this | exact this) GW105.out) | (rw [add_block]; exact Nat.ne_of_lt (Nat.lt_of_lt_of_le (by have := World.block_lt_of_cell? _ _ hw106_0; first | rwa [add_block] at this | exact this) GW105.out)) | (show (Addr.add _ _).block ≠ _; rw [add_block]; exact Nat.ne_of_lt (Nat.lt_of_lt_of_le (by have := World.block_lt_of_cell? _ _ hw106_0; first | rwa [add_block] at this | exact this) GW105.out)) | (dsimp only; exact Nat.ne_of_lt (Nat.lt_of_lt_of_le (by have := World.block_lt_of_cell? _ _ hw106_0; first | rwa [add_block] at this | exact this) GW105.out))) _).trans (hHeld.1)), ((cell_far (p := ⟨gb105, _, none⟩) (by first | exact Nat.ne_of_lt (Nat.lt_of_lt_of_le (by have := World.block_lt_of_cell? _ _ hw106_1; first | rwa [add_block] at this | exact this) GW105.out) | (rw [add_block]; exact Nat.ne_of_lt (Nat.lt_of_lt_of_le (by have := World.block_lt_of_cell? _ _ hw106_1; first | rwa [add_block] at this | exact this) GW105.out)) | (show (Addr.add _ _).block ≠ _; rw [add_block]; exact Nat.ne_of_lt (Nat.lt_of_lt_of_le (by have := World.block_lt_of_cell? _ _ hw106_1; first | rwa [add_block] at this | exact this) GW105.out)) | (dsimp only; exact Nat.ne_of_lt (Nat.lt_of_lt_of_le (by have := World.block_lt_of_cell? _ _ hw106_1; first | rwa [add_block] at this | exact this) GW105.out))) _).trans (hHeld.2.1)), ((cell_far (p := ⟨gb105, _, none⟩) (by first | exact Nat.ne_of_lt (Nat.lt_of_lt_of_le (by have := World.block_lt_of_cell? _ _ hw106_2; first | rwa [add_block] at this | exact this) GW105.out) | (rw [add_block]; exact Nat.ne_of_lt (Nat.lt_of_lt_of_le (by have := World.block_lt_of_cell? _ _ hw106_2; first | rwa [add_block] at this | exact this) GW105.out)) | (show (Addr.add _ _).block ≠ _; rw [add_block]; exact Nat.ne_of_lt (Nat.lt_of_lt_of_le (by have := World.block_lt_of_cell? _ _ hw106_2; first | rwa [add_block] at this | exact this) GW105.out)) | (dsimp only; exact Nat.ne_of_lt (Nat.lt_of_lt_of_le (by have := World.block_lt_of_cell? _ _ hw106_2; first | rwa [add_block] at this | exact this) GW105.out))) _).trans (hHeld.2.2.1)), ((cell_far (p := ⟨gb105, _, none⟩) (by first | exact Nat.ne_of_lt (Nat.lt_of_lt_of_le (by have := World.block_lt_of_cell? _ _ hw107_0; first | rwa [add_block] at this | exact this) GW105.out) | (rw [add_block]; exact Nat.ne_of_lt (Nat.lt_of_lt_of_le (by have := World.block_lt_of_cell? _ _ hw107_0; first | rwa [add_block] at this | exact this) GW105.out)) | (show (Addr.add _ _).block ≠ _; rw [add_block]; exact Nat.ne_of_lt (Nat.lt_of_lt_of_le (by have := World.block_lt_of_cell? _ _ hw107_0; first | rwa [add_block] at this | exact this) GW105.out)) | (dsimp only; exact Nat.ne_of_lt (Nat.lt_of_lt_of_le (by have := World.block_lt_of_cell? _ _ hw107_0; first | rwa [add_block] at this | exact this) GW105.out))) _).trans (hHeld.2.2.2.1)), ((cell_far (p := ⟨gb105, _, none⟩) (by first | exact Nat.ne_of_lt (Nat.lt_of_lt_of_le (by have := World.block_lt_of_cell? _ _ hw107_1; first | rwa [add_block] at this | exact this) GW105.out) | (rw [add_block]; exact Nat.ne_of_lt (Nat.lt_of_lt_of_le (by have := World.block_lt_of_cell? _ _ hw107_1; first | rwa [add_block] at this | exact this) GW105.out)) | (show (Addr.add _ _).block ≠ _; rw [add_block]; exact Nat.ne_of_lt (Nat.lt_of_lt_of_le (by have := World.block_lt_of_cell? _ _ hw107_1; first | rwa [add_block] at this | exact this) GW105.out)) | (dsimp only; exact Nat.ne_of_lt (Nat.lt_of_lt_of_le (by have := World.block_lt_of_cell? _ _ hw107_1; first | rwa [add_block] at this | exact this) GW105.out))) _).trans (hHeld.2.2.2.2.1)), ((cell_far (p := ⟨gb105, _, none⟩) (by first | exact Nat.ne_of_lt (Nat.lt_of_lt_of_le (by have := World.block_lt_of_cell? _ _ hw107_2; first | rwa [add_block] at this | exact this) GW105.out) | (rw [add_block]; exact Nat.ne_of_lt (Nat.lt_of_lt_of_le (by have := World.block_lt_of_cell? _ _ hw107_2; first | rwa [add_block] at this | exact this) GW105.out)) | (show (Addr.add _ _).block ≠ _; rw [add_block]; exact Nat.ne_of_lt (Nat.lt_of_lt_of_le (by have := World.block_lt_of_cell? _ _ hw107_2; first | rwa [add_block] at this | exact this) GW105.out)) | (dsimp only; exact Nat.ne_of_lt (Nat.lt_of_lt_of_le (by have := World.block_lt_of_cell? _ _ hw107_2; first | rwa [add_block] at this | exact this) GW105.out))) _).trans (hHeld.2.2.2.2.2))⟩ (fun hHeld => ?_)
            clear hK K;refine done_ (done_of HT_.out (by kernel_rfl)) ?_
            obtain ⟨hcz22_0, hcz22_1, hcz22_2, hfz22_0, hfz22_1, hfz22_2⟩ := zc3 BK105;try go_wp2_with (first | ((with_reducible refine gate_builtin (b := .append) (xs := #[.tmp 62, .tmp 64]) rfl ?_); at_builtin; refine R_append k55 (w0 := w) w.heap.size rfl (.tmp 62) (.tmp 64) 22 55 (.agg #[(.int .i64 0), (.int .i64 0), (.string ⟨#[]⟩)]) 32 rfl Tryd.underlying22 info55 rfl (by decide) (by omega) u5 x5_1 (⟨wrap64 (1 + (Int.tmod (wrap64 ((Int.tmod ((rd_T55 l0 x6_1).f0) 3) + 3)) 3)), 0, t108⟩ : S55) [.int .i64 (wrap64 (1 + (Int.tmod (wrap64 ((Int.tmod ((rd_T55 l0 x6_1).f0) 3) + 3)) 3))), .int .i64 0, .string t108] (fun k_ => k_ ≠ gb105) (fun _ => False) rfl (by first | (go_simp; done) | (go_simp; rfl)) ?aP (fun _ hk => hk.elim) ?aF ?aO ?aB ?aS ?aL ?_; (case aP => exact k55_mkM _ _ _ (⟨wrap64 (1 + (Int.tmod (wrap64 ((Int.tmod ((rd_T55 l0 x6_1).f0) 3) + 3)) 3)), 0, t108⟩ : S55)); (case aB => exact (zB HB)); (case aF => exact (fun k_ hk => Kd.freshB (g := gb105) (o := .cells #[.int .i64 (wrap64 (1 + (Int.tmod (wrap64 ((Int.tmod ((rd_T55 l0 x6_1).f0) 3) + 3)) 3))), .int .i64 0, .string t108] 55 (0, 0)) (zP BK105) k_ hk)); (case aO => exact (by (with_reducible repeat (first | apply R_alloc | apply R_drewN | apply R_drew)); exact R_mono (R_far (p := ⟨gb105, 2, none⟩) (R_mono HO_5.out (fun k_ hk => (⟨hk, hk⟩ : _ ∧ k_ ≠ gb105))) (fun _ hk => hk.2) (.string t108)) (fun _ hk => hk.1))); (case aS => exact (below_size (zB HB))); (case aL => have := LMc15.out; omega); intro v110 w23 ho hb hg hat; rw [← Ny109.out] at ho; replace BK105 := Am (blk_grown (g := gb105) (o := .cells #[.int .i64 (wrap64 (1 + (Int.tmod (wrap64 ((Int.tmod ((rd_T55 l0 x6_1).f0) 3) + 3)) 3))), .int .i64 0, .string t108] 55 (0, 0)) (zP BK105) hg (R_away HO_5.out (fun _ hk => hk)));replace HB := Am (hb);have HO111 := Am (ho);clear HO_5; clear ho hb hg hat))
            go_roundg kj4
            case measure => have := HK1.out; have := HJ4.out; omega
            case rel => exact ⟨(x1_1), (y109), (wrap64 (x6_1 + 1)), zG, zG, H', ⟨by have := HK1.out; have := HJ4.out; omega⟩, ⟨by (with_reducible repeat (first | apply R_alloc | apply R_drewN | apply R_drew)); exact R_mono HO111.out (fun _ hk => trivial)⟩, ⟨(zB HB)⟩⟩
           ·rw [if_neg c15] at H;exact absurd H (by simp)
          ·rw [if_neg c13] at H;exact absurd H (by simp)
         ·rw [if_neg c12] at H;exact absurd H (by simp)
        ·rw [if_neg c10] at H;have c10b0 : ((wrap64 (1 + (Int.tmod (wrap64 ((Int.tmod ((rd_T55 l0 x6_1).f0) 3) + 3)) 3))) == 2) = false := beq_eq_false_iff_ne.mpr c10
         have c10b1 : ((wrap64 (1 + (Int.tmod (wrap64 ((Int.tmod ((rd_T55 l0 x6_1).f0) 3) + 3)) 3))) != 2) = true := bne_iff_ne.mpr c10
         obtain ⟨ji24, hji24⟩ : ∃ j_ : Int, (mn (Int.tmod (wrap64 ((Int.tmod ((rd_T55 l0 x6_1).f1) 7) + 7)) 7) x1_1) = j_ := ⟨_, rfl⟩
         replace H : (if x5_1.length < 4398046511104 then (epitomeref04_Fit.l0 kj4 l0 (wrap64 (x1_1 - (ji24))) (x5_1 ++ [(⟨wrap64 (1 + (Int.tmod (wrap64 ((Int.tmod ((rd_T55 l0 x6_1).f0) 3) + 3)) 3)), ji24, (⟨#[]⟩ : ByteArray)⟩ : S55)]) (wrap64 (x6_1 + 1))) else (none)) = some r := by first | (rw [hji24] at H; exact H) | (simp only [hji24] at H ⊢; exact H)
         have hji24_ : (if x1_1 < (Int.tmod (wrap64 ((Int.tmod ((rd_T55 l0 x6_1).f1) 7) + 7)) 7) then x1_1 else (Int.tmod (wrap64 ((Int.tmod ((rd_T55 l0 x6_1).f1) 7) + 7)) 7)) = ji24 := hji24
         by_cases c25 : x5_1.length < 4398046511104
         ·rw [if_pos c25] at H;have LMc25 := Am c25;clear c25;obtain ⟨y113, hy113⟩ : ∃ y_ : List (S55), y_ = (x5_1 ++ [(⟨wrap64 (1 + (Int.tmod (wrap64 ((Int.tmod ((rd_T55 l0 x6_1).f0) 3) + 3)) 3)), ji24, (⟨#[]⟩ : ByteArray)⟩ : S55)]) := ⟨_, rfl⟩
          replace H : (epitomeref04_Fit.l0 kj4 l0 (wrap64 (x1_1 - (ji24))) y113 (wrap64 (x6_1 + 1))) = some r := by first | (rw [hy113]; with_reducible exact H) | (have H2_ := (Option.bind_some _ _).symm.trans H; rw [hy113]; with_reducible exact H2_) | (have H2_ := (Option.bind_some _ _).symm.trans H; with_reducible exact H2_) | with_reducible exact H | (rw [hy113]; exact H) | exact H
          have Ny113 := Am hy113;clear hy113;have H' := Am H
          clear H;have p104 : 0 ≤ (x6_1 : Int) := of_decide_eq_true (by assumption)
          have q104 : x6_1 < (l0.length : Int) := of_decide_eq_true (by assumption)
          obtain ⟨ad104, e104, hx104_0, hx104_1, hx104_2⟩ := at_T55 HR0.out x6_1 p104 q104
          cases e104
          replace hx104_0 := (HB.out.cell (World.block_lt_of_cell? w _ hx104_0)).trans hx104_0
          replace hx104_1 := (HB.out.cell (World.block_lt_of_cell? w _ hx104_1)).trans hx104_1
          replace hx104_2 := (HB.out.cell (World.block_lt_of_cell? w _ hx104_2)).trans hx104_2
          replace p104 := eq_true p104;replace q104 := eq_true q104;go_wp2_with (first | ((with_reducible refine gate_dst (N := 7) rfl ?_); refine box_event ?hg (N := 7) ?hd (cs := #[.int .i64 0, .int .i64 0, .string (⟨#[]⟩ : ByteArray)]) (t := 55) ?hr ?_; (case hd => rfl); (case hg => rfl); (case hr => first | (go_simp; done) | (go_simp; rfl)); intro gb105 hg w26 hbox hb; replace HO_5 := Am (R_below (R_elderB (zR HO_5) gb105 (Nat.le_of_eq hg.symm)) hb);have BK105 := Am (hbox);have GW105 := Am (zO (w := w) HB hg);have GE105 := Am (zO (w := w) HB hg);replace HB := Am (below_step (zB HB) hb); clear hb hbox hg; obtain ⟨hcz27_0, hcz27_1, hcz27_2, hfz27_0, hfz27_1, hfz27_2⟩ := zc3 BK105; have p112 : 0 ≤ (x6_1 : Int) := of_decide_eq_true (by assumption); have q112 : x6_1 < (l0.length : Int) := of_decide_eq_true (by assumption); obtain ⟨ad112, e112, hx112_0, hx112_1, hx112_2⟩ := at_T55 HR0.out x6_1 p112 q112; obtain rfl : ad104 = ad112 := (by injection e112); have hn112_0 : ad104.block ≠ gb105 := Nat.ne_of_lt (Nat.lt_of_lt_of_le (by have := World.block_lt_of_cell? _ _ hx112_0; first | rwa [add_block] at this | exact this) GW105.out); have hn112_1 : ad104.block ≠ gb105 := Nat.ne_of_lt (Nat.lt_of_lt_of_le (by have := World.block_lt_of_cell? _ _ hx112_0; first | rwa [add_block] at this | exact this) GW105.out); have hn112_2 : ad104.block ≠ gb105 := Nat.ne_of_lt (Nat.lt_of_lt_of_le (by have := World.block_lt_of_cell? _ _ hx112_0; first | rwa [add_block] at this | exact this) GW105.out); replace hx112_0 := (HB.out.cell (World.block_lt_of_cell? w _ hx112_0)).trans hx112_0; replace hx112_1 := (HB.out.cell (World.block_lt_of_cell? w _ hx112_1)).trans hx112_1; replace hx112_2 := (HB.out.cell (World.block_lt_of_cell? w _ hx112_2)).trans hx112_2; replace hx112_0 := (cell_far (p := ⟨gb105, 0, none⟩) (zN hn112_0) (.int .i64 (wrap64 (1 + (Int.tmod (wrap64 ((Int.tmod ((rd_T55 l0 x6_1).f0) 3) + 3)) 3))))).trans hx112_0; replace hx112_1 := (cell_far (p := ⟨gb105, 0, none⟩) (zN hn112_0) (.int .i64 (wrap64 (1 + (Int.tmod (wrap64 ((Int.tmod ((rd_T55 l0 x6_1).f0) 3) + 3)) 3))))).trans hx112_1; replace hx112_2 := (cell_far (p := ⟨gb105, 0, none⟩) (zN hn112_0) (.int .i64 (wrap64 (1 + (Int.tmod (wrap64 ((Int.tmod ((rd_T55 l0 x6_1).f0) 3) + 3)) 3))))).trans hx112_2; replace hx112_0 := (cell_far (p := ⟨gb105, 1, none⟩) (zN hn112_1) (.int .i64 0)).trans hx112_0; replace hx112_1 := (cell_far (p := ⟨gb105, 1, none⟩) (zN hn112_1) (.int .i64 0)).trans hx112_1; replace hx112_2 := (cell_far (p := ⟨gb105, 1, none⟩) (zN hn112_1) (.int .i64 0)).trans hx112_2; replace hx112_0 := (cell_far (p := ⟨gb105, 2, none⟩) (zN hn112_2) (.string (⟨#[]⟩ : ByteArray))).trans hx112_0; replace hx112_1 := (cell_far (p := ⟨gb105, 2, none⟩) (zN hn112_2) (.string (⟨#[]⟩ : ByteArray))).trans hx112_1; replace hx112_2 := (cell_far (p := ⟨gb105, 2, none⟩) (zN hn112_2) (.string (⟨#[]⟩ : ByteArray))).trans hx112_2; clear hn112_0; clear hn112_1; clear hn112_2; replace p112 := eq_true p112; replace q112 := eq_true q112) | ((with_reducible refine gate_builtin (b := .append) (xs := #[.tmp 62, .tmp 64]) rfl ?_); at_builtin; refine R_append k55 (w0 := w) w.heap.size rfl (.tmp 62) (.tmp 64) 22 55 (.agg #[(.int .i64 0), (.int .i64 0), (.string ⟨#[]⟩)]) 32 rfl Tryd.underlying22 info55 rfl (by decide) (by omega) u5 x5_1 (⟨wrap64 (1 + (Int.tmod (wrap64 ((Int.tmod ((rd_T55 l0 x6_1).f0) 3) + 3)) 3)), ji24, (⟨#[]⟩ : ByteArray)⟩ : S55) [.int .i64 (wrap64 (1 + (Int.tmod (wrap64 ((Int.tmod ((rd_T55 l0 x6_1).f0) 3) + 3)) 3))), .int .i64 ji24, .string (⟨#[]⟩ : ByteArray)] (fun k_ => k_ ≠ gb105) (fun _ => False) rfl (by first | (go_simp; done) | (go_simp; rfl)) ?aP (fun _ hk => hk.elim) ?aF ?aO ?aB ?aS ?aL ?_; (case aP => exact k55_mkM _ _ _ (⟨wrap64 (1 + (Int.tmod (wrap64 ((Int.tmod ((rd_T55 l0 x6_1).f0) 3) + 3)) 3)), ji24, (⟨#[]⟩ : ByteArray)⟩ : S55)); (case aB => exact (zB HB)); (case aF => exact (fun k_ hk => Kd.freshB (g := gb105) (o := .cells #[.int .i64 (wrap64 (1 + (Int.tmod (wrap64 ((Int.tmod ((rd_T55 l0 x6_1).f0) 3) + 3)) 3))), .int .i64 ji24, .string (⟨#[]⟩ : ByteArray)] 55 (0, 0)) (zP BK105) k_ hk)); (case aO => exact (by (with_reducible repeat (first | apply R_alloc | apply R_drewN | apply R_drew)); exact R_mono (R_far (p := ⟨gb105, 1, none⟩) (zY (R_mono HO_5.out (fun k_ hk => (⟨hk, hk.2⟩ : _ ∧ k_ ≠ gb105))) gb105 (fun _ hk => hk.2) (.int .i64 (wrap64 (1 + (Int.tmod (wrap64 ((Int.tmod ((rd_T55 l0 x6_1).f0) 3) + 3)) 3)))) (.int .i64 0) (.string (⟨#[]⟩ : ByteArray))) (fun _ hk => hk.2) (.int .i64 ji24)) (fun _ hk => hk.1.2))); (case aS => exact (below_size (zB HB))); (case aL => have := LMc25.out; omega); intro v114 w28 ho hb hg hat; rw [← Ny113.out] at ho; replace BK105 := Am (blk_grown (g := gb105) (o := .cells #[.int .i64 (wrap64 (1 + (Int.tmod (wrap64 ((Int.tmod ((rd_T55 l0 x6_1).f0) 3) + 3)) 3))), .int .i64 ji24, .string (⟨#[]⟩ : ByteArray)] 55 (0, 0)) (zP BK105) hg (R_away HO_5.out (fun _ hk => hk.2)));replace HB := Am (hb);have HO115 := Am (ho);clear HO_5; clear ho hb hg hat))
          go_roundg kj4
          case measure => have := HK1.out; have := HJ4.out; omega
          case rel => exact ⟨(wrap64 (x1_1 - (ji24))), (y113), (wrap64 (x6_1 + 1)), (by first | rfl | (simp; done) | (simp only [← hji24] <;> (first | rfl | simp)) | (simp [*]; done)), zG, H', ⟨by have := HK1.out; have := HJ4.out; omega⟩, ⟨by (with_reducible repeat (first | apply R_alloc | apply R_drewN | apply R_drew)); exact R_mono HO115.out (fun _ hk => trivial)⟩, ⟨(zB HB)⟩⟩
         ·rw [if_neg c25] at H;exact absurd H (by simp)
       ·rw [if_neg c9] at H;exact absurd H (by simp)
      ·rw [if_neg c8] at H;exact absurd H (by simp)
     ·replace c7 := Bool.eq_false_iff.mpr c7
      subst c7
      have H1 : (if x1_1 > 0 then (if x5_1.length < 4398046511104 then (some (x5_1 ++ [(⟨1, x1_1, (⟨#[]⟩ : ByteArray)⟩ : S55)])) else (none)) else (some x5_1)) = some r := by rw [if_neg (show ¬ (false = true) by decide)] at H; exact H
      clear H;have H := H1
      clear H1;by_cases c29 : x1_1 > 0
      ·rw [if_pos c29] at H;have c29b0 : decide (0 < x1_1) = true := decide_eq_true c29
       clear c29;by_cases c30 : x5_1.length < 4398046511104
       ·rw [if_pos c30] at H;have LMc30 := Am c30;clear c30;obtain ⟨y116, hy116⟩ : ∃ y_ : List (S55), y_ = (x5_1 ++ [(⟨1, x1_1, (⟨#[]⟩ : ByteArray)⟩ : S55)]) := ⟨_, rfl⟩
        replace H : (some y116) = some r := by first | (rw [hy116]; with_reducible exact H) | (have H2_ := (Option.bind_some _ _).symm.trans H; rw [hy116]; with_reducible exact H2_) | (have H2_ := (Option.bind_some _ _).symm.trans H; with_reducible exact H2_) | with_reducible exact H | (rw [hy116]; exact H) | exact H
        have Ny116 := Am hy116;clear hy116;obtain rfl := Option.some.inj H;go_wp2_with (first | ((with_reducible refine gate_builtin (b := .append) (xs := #[.tmp 68, .tmp 71]) rfl ?_); at_builtin; refine R_append k55 (w0 := w) w.heap.size rfl (.tmp 68) (.tmp 71) 22 55 (.agg #[(.int .i64 0), (.int .i64 0), (.string ⟨#[]⟩)]) 32 rfl Tryd.underlying22 info55 rfl (by decide) (by omega) u5 x5_1 (⟨1, x1_1, (⟨#[]⟩ : ByteArray)⟩ : S55) [.int .i64 1, .int .i64 x1_1, .string (⟨#[]⟩ : ByteArray)] (fun _ => True) (fun _ => False) rfl rfl ?aP (fun _ hk => hk.elim) ?aF ?aO ?aB ?aS ?aL ?_; (case aP => exact k55_mkM _ _ _ (⟨1, x1_1, (⟨#[]⟩ : ByteArray)⟩ : S55)); (case aB => exact (zB HB)); (case aF => exact (fun _ _ => trivial)); (case aO => exact (zR HO_5)); (case aS => exact (below_size (zB HB))); (case aL => have := LMc30.out; omega); intro v117 w31 ho hb hg hat; rw [← Ny116.out] at ho; replace HB := Am (hb);have HO118 := Am (ho);clear HO_5; clear ho hb hg hat))
        go_ret
        exact ⟨_, zF, (zR HO118), (zB HB)⟩
       ·rw [if_neg c30] at H;exact absurd H (by simp)
      ·rw [if_neg c29] at H;have c29b0 : decide (0 < x1_1) = false := decide_eq_false c29
       clear c29;obtain rfl := Option.some.inj H;go_wp2
       go_ret
       exact ⟨_, zF, (zR HO_5), (zB HB)⟩
end Go.Proofs.YtekjfodfedpioaaDoor.F
end
section
namespace Go.Proofs.YtekjfodfedpioaaDoor.F
open Go.RowKit Go.Proofs.YtekjfodfedpioaaDoorW.PrintWords Go.Proofs.YtekjfodfedpioaaDoorW.PrintLast Go.Proofs.YtekjfodfedpioaaDoorW.PrintMore
attribute [local go_sem] max2_int min2_int max_two min_two max_three min_three max_four min_four cell_setCell_isSome
set_option linter.unusedVariables false
set_option linter.unusedSimpArgs false
open Kd
mutual
def epitomeref06_Same.j0 : Nat → Bool → List ByteArray → List Bool → List ByteArray → List Bool → Option (Bool)
  | 0, _, _, _, _, _ => none
  | k + 1, x22, x102000, x102001, x103000, x103001 => if x22 = true then (some false) else (epitomeref06_Same.l0 k 0 x102000 x102001 x103000 x103001)
def epitomeref06_Same.l0 : Nat → Int → List ByteArray → List Bool → List ByteArray → List Bool → Option (Bool)
  | 0, _, _, _, _, _ => none
  | k + 1, x5, x102000, x102001, x103000, x103001 => if x5 < (x102000.length : Int) then (if 0 ≤ x5 then (if x5 < (x103000.length : Int) then (if (rdOf ByteArray.empty x102000 x5).toList = (rdOf ByteArray.empty x103000 x5).toList then (epitomeref06_Same.l0 k (wrap64 (x5 + 1)) x102000 x102001 x103000 x103001) else (some false)) else (none)) else (none)) else (epitomeref06_Same.l1 k 0 x102000 x102001 x103000 x103001)
def epitomeref06_Same.l1 : Nat → Int → List ByteArray → List Bool → List ByteArray → List Bool → Option (Bool)
  | 0, _, _, _, _, _ => none
  | k + 1, x6, x102000, x102001, x103000, x103001 => if x6 < (x102001.length : Int) then (if 0 ≤ x6 then (if x6 < (x103001.length : Int) then (if ((rdOf false x102001 x6) != (rdOf false x103001 x6)) = true then (some false) else (epitomeref06_Same.l1 k (wrap64 (x6 + 1)) x102000 x102001 x103000 x103001)) else (none)) else (none)) else (some true)
end
def epitomeref06_Same.f (k : Nat) (l0_0 : List ByteArray) (l0_1 : List Bool) (l1_0 : List ByteArray) (l1_1 : List Bool) : Option (Bool) := if (l0_0.length : Int) = (l1_0.length : Int) then (epitomeref06_Same.j0 k ((l0_1.length : Int) != (l1_1.length : Int)) l0_0 l0_1 l1_0 l1_1) else (epitomeref06_Same.j0 k true l0_0 l0_1 l1_0 l1_1)
theorem epitomeref06_Same.mono_l : ∀ k, (∀ y0 y1 y2 y3 y4, LeO (epitomeref06_Same.j0 k y0 y1 y2 y3 y4) (epitomeref06_Same.j0 (k + 1) y0 y1 y2 y3 y4)) ∧ (∀ y0 y1 y2 y3 y4, LeO (epitomeref06_Same.l0 k y0 y1 y2 y3 y4) (epitomeref06_Same.l0 (k + 1) y0 y1 y2 y3 y4)) ∧ (∀ y0 y1 y2 y3 y4, LeO (epitomeref06_Same.l1 k y0 y1 y2 y3 y4) (epitomeref06_Same.l1 (k + 1) y0 y1 y2 y3 y4))
  | 0 => ⟨fun _ _ _ _ _ r h => by simp [epitomeref06_Same.j0] at h, fun _ _ _ _ _ r h => by simp [epitomeref06_Same.l0] at h, fun _ _ _ _ _ r h => by simp [epitomeref06_Same.l1] at h⟩
  | k + 1 => by
    obtain ⟨ih0, ih1, ih2⟩ := epitomeref06_Same.mono_l k
    refine ⟨?_, ?_, ?_⟩
    · intro y0 y1 y2 y3 y4
      unfold epitomeref06_Same.j0
      repeat' first
      | (with_reducible exact ih0 _ _ _ _ _)
      | (with_reducible exact ih1 _ _ _ _ _)
      | (with_reducible exact ih2 _ _ _ _ _)
      | (with_reducible exact LeO.refl _)
      | (with_reducible exact LeO.none _)
      | (with_reducible refine LeO.ite ?_ ?_)
      | (with_reducible refine LeO.bind ?_ (fun _ => ?_))
      | exact ih0 _ _ _ _ _
      | exact ih1 _ _ _ _ _
      | exact ih2 _ _ _ _ _
      | exact LeO.none _
      | refine LeO.ite ?_ ?_
      | refine LeO.bind ?_ (fun _ => ?_)
    · intro y0 y1 y2 y3 y4
      unfold epitomeref06_Same.l0
      repeat' first
      | (with_reducible exact ih0 _ _ _ _ _)
      | (with_reducible exact ih1 _ _ _ _ _)
      | (with_reducible exact ih2 _ _ _ _ _)
      | (with_reducible exact LeO.refl _)
      | (with_reducible exact LeO.none _)
      | (with_reducible refine LeO.ite ?_ ?_)
      | (with_reducible refine LeO.bind ?_ (fun _ => ?_))
      | exact ih0 _ _ _ _ _
      | exact ih1 _ _ _ _ _
      | exact ih2 _ _ _ _ _
      | exact LeO.none _
      | refine LeO.ite ?_ ?_
      | refine LeO.bind ?_ (fun _ => ?_)
    · intro y0 y1 y2 y3 y4
      unfold epitomeref06_Same.l1
      repeat' first
      | (with_reducible exact ih0 _ _ _ _ _)
      | (with_reducible exact ih1 _ _ _ _ _)
      | (with_reducible exact ih2 _ _ _ _ _)
      | (with_reducible exact LeO.refl _)
      | (with_reducible exact LeO.none _)
      | (with_reducible refine LeO.ite ?_ ?_)
      | (with_reducible refine LeO.bind ?_ (fun _ => ?_))
      | exact ih0 _ _ _ _ _
      | exact ih1 _ _ _ _ _
      | exact ih2 _ _ _ _ _
      | exact LeO.none _
      | refine LeO.ite ?_ ?_
      | refine LeO.bind ?_ (fun _ => ?_)
theorem epitomeref06_Same.mono : ∀ a0 a1 a2 a3 k, LeO (epitomeref06_Same.f k a0 a1 a2 a3) (epitomeref06_Same.f (k + 1) a0 a1 a2 a3) := by
  intro a0 a1 a2 a3 k
  obtain ⟨ih0, ih1, ih2⟩ := epitomeref06_Same.mono_l k
  unfold epitomeref06_Same.f
  repeat' first
      | (with_reducible exact ih0 _ _ _ _ _)
      | (with_reducible exact ih1 _ _ _ _ _)
      | (with_reducible exact ih2 _ _ _ _ _)
      | (with_reducible exact LeO.refl _)
      | (with_reducible exact LeO.none _)
      | (with_reducible refine LeO.ite ?_ ?_)
      | (with_reducible refine LeO.bind ?_ (fun _ => ?_))
      | exact ih0 _ _ _ _ _
      | exact ih1 _ _ _ _ _
      | exact ih2 _ _ _ _ _
      | exact LeO.none _
      | refine LeO.ite ?_ ?_
      | refine LeO.bind ?_ (fun _ => ?_)
set_option maxHeartbeats 40000000 in
set_option maxRecDepth 100000 in
theorem epitomeref06_Same.calls (k : Nat) (A0_0 : Option Addr) (c0_0 : Nat) (l0_0 : List ByteArray) (A0_1 : Option Addr) (c0_1 : Nat) (l0_1 : List Bool) (A1_0 : Option Addr) (c1_0 : Nat) (l1_0 : List ByteArray) (A1_1 : Option Addr) (c1_1 : Nat) (l1_1 : List Bool) (r : Bool) (w : World) (hr0_0 : Kd.C Kd.string w A0_0 l0_0.length l0_0) (hc0_0 : l0_0.length ≤ c0_0) (hr0_1 : Kd.C Kd.bool w A0_1 l0_1.length l0_1) (hc0_1 : l0_1.length ≤ c0_1) (hr1_0 : Kd.C Kd.string w A1_0 l1_0.length l1_0) (hc1_0 : l1_0.length ≤ c1_0) (hr1_1 : Kd.C Kd.bool w A1_1 l1_1.length l1_1) (hc1_1 : l1_1.length ≤ c1_1) (h : epitomeref06_Same.f k l0_0 l0_1 l1_0 l1_1 = some r) :
  Calls Tryd.prog 17 #[.agg #[.slice A0_0 l0_0.length c0_0, .slice A0_1 l0_1.length c0_1], .agg #[.slice A1_0 l1_0.length c1_0, .slice A1_1 l1_1.length c1_1]] w fun e w' => e = .returned (.bool r) ∧ Below w.heap.size w w' := by
 have hu32 := Tryd.underlying32
 have HR0_0 := Am hr0_0;have HC0_0 := Am hc0_0;clear hr0_0 hc0_0;have HR0_1 := Am hr0_1;have HC0_1 := Am hc0_1;clear hr0_1 hc0_1;have HR1_0 := Am hr1_0;have HC1_0 := Am hc1_0;clear hr1_0 hc1_0;have HR1_1 := Am hr1_1;have HC1_1 := Am hc1_1;clear hr1_1 hc1_1;have HB := Am (Below.refl w.heap.size w)
 have H : (if (l0_0.length : Int) = (l1_0.length : Int) then (epitomeref06_Same.j0 k ((l0_1.length : Int) != (l1_1.length : Int)) l0_0 l0_1 l1_0 l1_1) else (epitomeref06_Same.j0 k true l0_0 l0_1 l1_0 l1_1)) = some r := h
 clear h;have HC3 := Am H;clear H;go_enter Tryd.func17, Tryd.ntmps17
 go_upto_region 1 with (first | ((with_reducible refine gate_dst (N := 2) rfl ?_); (try (refine gate_guard (by rfl) ?_; dsimp only)); refine box_event ?hg (N := 2) ?hd (cs := #[.slice A0_0 l0_0.length c0_0, .slice A0_1 l0_1.length c0_1]) (t := 32) ?hr ?_; (case hd => rfl); (case hg => rfl); (case hr => first | (go_simp; done) | (go_simp; rfl)); intro gb101 hg w4 hbox hb; have BK101 := Am (hbox);have GW101 := Am (zO (w := w) HB hg);have GE101 := Am (zO (w := w) HB hg);replace HB := Am (below_step (zB HB) hb); clear hb hbox hg) | ((with_reducible refine gate_dst (N := 3) rfl ?_); (try (refine gate_guard (by rfl) ?_; dsimp only)); refine box_event ?hg (N := 3) ?hd (cs := #[.slice A1_0 l1_0.length c1_0, .slice A1_1 l1_1.length c1_1]) (t := 32) ?hr ?_; (case hd => rfl); (case hg => rfl); (case hr => first | (go_simp; done) | (go_simp; rfl)); intro gb102 hg w5 hbox hb; have BK102 := Am (hbox);have GW102 := Am (zO (w := w) HB hg);have GE102 := Am (zO (w := w) HB hg);replace HB := Am (below_step (zB HB) hb);have NB101_102 := Am ((by rw [hg]; exact Nat.ne_of_lt (zL BK101) : gb101 ≠ gb102));have NB102_101 := Am ((by rw [hg]; exact Nat.ne_of_gt (zL BK101) : gb102 ≠ gb101));replace BK101 := Am (zU BK101 hb); clear hb hbox hg))
 repeat (go_quiet (first | ((with_reducible refine gate_dst (N := 2) rfl ?_); (try (refine gate_guard (by rfl) ?_; dsimp only)); refine box_event ?hg (N := 2) ?hd (cs := #[.slice A0_0 l0_0.length c0_0, .slice A0_1 l0_1.length c0_1]) (t := 32) ?hr ?_; (case hd => rfl); (case hg => rfl); (case hr => first | (go_simp; done) | (go_simp; rfl)); intro gb101 hg w4 hbox hb; have BK101 := Am (hbox);have GW101 := Am (zO (w := w) HB hg);have GE101 := Am (zO (w := w) HB hg);replace HB := Am (below_step (zB HB) hb); clear hb hbox hg) | ((with_reducible refine gate_dst (N := 3) rfl ?_); (try (refine gate_guard (by rfl) ?_; dsimp only)); refine box_event ?hg (N := 3) ?hd (cs := #[.slice A1_0 l1_0.length c1_0, .slice A1_1 l1_1.length c1_1]) (t := 32) ?hr ?_; (case hd => rfl); (case hg => rfl); (case hr => first | (go_simp; done) | (go_simp; rfl)); intro gb102 hg w5 hbox hb; have BK102 := Am (hbox);have GW102 := Am (zO (w := w) HB hg);have GE102 := Am (zO (w := w) HB hg);replace HB := Am (below_step (zB HB) hb);have NB101_102 := Am ((by rw [hg]; exact Nat.ne_of_lt (zL BK101) : gb101 ≠ gb102));have NB102_101 := Am ((by rw [hg]; exact Nat.ne_of_gt (zL BK101) : gb102 ≠ gb101));replace BK101 := Am (zU BK101 hb); clear hb hbox hg)); go_upto_region 1 with (first | ((with_reducible refine gate_dst (N := 2) rfl ?_); (try (refine gate_guard (by rfl) ?_; dsimp only)); refine box_event ?hg (N := 2) ?hd (cs := #[.slice A0_0 l0_0.length c0_0, .slice A0_1 l0_1.length c0_1]) (t := 32) ?hr ?_; (case hd => rfl); (case hg => rfl); (case hr => first | (go_simp; done) | (go_simp; rfl)); intro gb101 hg w4 hbox hb; have BK101 := Am (hbox);have GW101 := Am (zO (w := w) HB hg);have GE101 := Am (zO (w := w) HB hg);replace HB := Am (below_step (zB HB) hb); clear hb hbox hg) | ((with_reducible refine gate_dst (N := 3) rfl ?_); (try (refine gate_guard (by rfl) ?_; dsimp only)); refine box_event ?hg (N := 3) ?hd (cs := #[.slice A1_0 l1_0.length c1_0, .slice A1_1 l1_1.length c1_1]) (t := 32) ?hr ?_; (case hd => rfl); (case hg => rfl); (case hr => first | (go_simp; done) | (go_simp; rfl)); intro gb102 hg w5 hbox hb; have BK102 := Am (hbox);have GW102 := Am (zO (w := w) HB hg);have GE102 := Am (zO (w := w) HB hg);replace HB := Am (below_step (zB HB) hb);have NB101_102 := Am ((by rw [hg]; exact Nat.ne_of_lt (zL BK101) : gb101 ≠ gb102));have NB102_101 := Am ((by rw [hg]; exact Nat.ne_of_gt (zL BK101) : gb102 ≠ gb101));replace BK101 := Am (zU BK101 hb); clear hb hbox hg)))
 (try simp only [Act.put, zS])
 go_cut [22] (fun v22 wc => ∃ (kq : Nat) (x22_2 : Bool), v22 = .bool x22_2 ∧ Aside0 (epitomeref06_Same.j0 kq x22_2 l0_0 l0_1 l1_0 l1_1 = some r) ∧ Aside0 (kq ≤ k) ∧ Aside0 (wc.heap[gb101]? = some (.cells #[(.slice A0_0 l0_0.length c0_0), (.slice A0_1 l0_1.length c0_1)] 32 (0, 0))) ∧ Aside0 (wc.heap[gb102]? = some (.cells #[(.slice A1_0 l1_0.length c1_0), (.slice A1_1 l1_1.length c1_1)] 32 (0, 0))) ∧ Aside0 (Below w.heap.size w wc))
 case first =>
  have H := HC3.out;clear HC3;by_cases c6 : (l0_0.length : Int) = (l1_0.length : Int)
  ·rw [if_pos c6] at H;have c6b0 : ((l0_0.length : Int) == (l1_0.length : Int)) = true := beq_iff_eq.mpr c6
   have c6b1 : ((l0_0.length : Int) != (l1_0.length : Int)) = false := bne_eq_false_iff_eq.mpr c6
   have c6b2 : (l0_0.length == l1_0.length) = true := by first | simpa using c6 | (simp at c6 ⊢; omega)
   clear c6;(first | rw [c6b0] | (simp only [i64_w, i32_w]; rw [c6b0]) | skip)
   have H' := Am H
   clear H;have hnb7 := NB101_102.out;have hnc7 := NB102_101.out;obtain ⟨hcz8_0, hcz8_1, hfz8_0, hfz8_1⟩ := zc2 BK101;obtain ⟨hcz9_0, hcz9_1, hfz9_0, hfz9_1⟩ := zc2 BK102;go_wp2
   repeat (go_quiet (fail); try go_wp2)
   go_meet
   case rel => exact ⟨_, (((l0_1.length : Int) != (l1_1.length : Int))), zG, H', ⟨by first | omega | exact Nat.le_refl _⟩, ⟨(zK BK101)⟩, ⟨(zK BK102)⟩, ⟨(zB HB)⟩⟩
  ·rw [if_neg c6] at H;have c6b0 : ((l0_0.length : Int) == (l1_0.length : Int)) = false := beq_eq_false_iff_ne.mpr c6
   have c6b1 : ((l0_0.length : Int) != (l1_0.length : Int)) = true := bne_iff_ne.mpr c6
   have c6b2 : (l0_0.length == l1_0.length) = false := by first | simpa using c6 | (simp at c6 ⊢; omega)
   (first | rw [c6b0] | (simp only [i64_w, i32_w]; rw [c6b0]) | skip)
   have H' := Am H
   clear H;have hnb10 := NB101_102.out;have hnc10 := NB102_101.out;obtain ⟨hcz11_0, hcz11_1, hfz11_0, hfz11_1⟩ := zc2 BK101;obtain ⟨hcz12_0, hcz12_1, hfz12_0, hfz12_1⟩ := zc2 BK102;go_wp2
   repeat (go_quiet (fail); try go_wp2)
   go_meet
   case rel => exact ⟨_, (true), zG, H', ⟨by first | omega | exact Nat.le_refl _⟩, ⟨(zK BK101)⟩, ⟨(zK BK102)⟩, ⟨(zB HB)⟩⟩
 case rest =>
  clear HC3;(try clear c1);(try clear p2);(try clear c6);(try clear c6b0);(try clear c6b1);(try clear c6b2);(try clear c7);(try clear c10);(try clear hcz11_0);(try clear hcz11_1);(try clear hcz12_0);(try clear hcz12_1);(try clear hcz8_0);(try clear hcz8_1);(try clear hcz9_0);(try clear hcz9_1);(try clear hfz11_0);(try clear hfz11_1);(try clear hfz12_0);(try clear hfz12_1);(try clear hfz8_0);(try clear hfz8_1);(try clear hfz9_0);(try clear hfz9_1);obtain ⟨kq, x22_2, rfl, HA, HJ2, BK101, BK102, HB⟩ := hcut
  cases kq with
  | zero => exact absurd HA.out (by simp [epitomeref06_Same.j0])
  | succ kj2 =>
   have H := HA.out;clear HA;simp only [epitomeref06_Same.j0] at H
   by_cases c13 : x22_2 = true
   ·subst c13
    have H1 : (some false) = some r := by rw [if_pos rfl] at H; exact H
    clear H;have H := H1
    clear H1;obtain rfl := Option.some.inj H;go_wp2
    repeat (go_quiet (fail); try go_wp2)
    go_ret
    exact ⟨zF, (zB HB)⟩
   ·replace c13 := Bool.eq_false_iff.mpr c13
    subst c13
    have H1 : (epitomeref06_Same.l0 kj2 0 l0_0 l0_1 l1_0 l1_1) = some r := by rw [if_neg (show ¬ (false = true) by decide)] at H; exact H
    clear H;have H := H1
    clear H1;have H' := Am H
    clear H;go_wp2
    repeat (go_quiet (fail); try go_wp2)
    go_loopg [5] kj2 (fun kq v5 w' => ∃ (x5_2 : Int), v5 = .int .i64 x5_2 ∧ Aside0 (epitomeref06_Same.l0 kq x5_2 l0_0 l0_1 l1_0 l1_1 = some r) ∧ Aside0 (kq ≤ kj2) ∧ Aside0 (w'.heap[gb101]? = some (.cells #[(.slice A0_0 l0_0.length c0_0), (.slice A0_1 l0_1.length c0_1)] 32 (0, 0))) ∧ Aside0 (w'.heap[gb102]? = some (.cells #[(.slice A1_0 l1_0.length c1_0), (.slice A1_1 l1_1.length c1_1)] 32 (0, 0))) ∧ Aside0 (Below w.heap.size w w'))
    case atStart => exact ⟨(0), zG, H', ⟨Nat.le_refl _⟩, ⟨(zK BK101)⟩, ⟨(zK BK102)⟩, ⟨(zB HB)⟩⟩
    case round =>
     clear H';(try clear c1);(try clear p2);(try clear c6);(try clear c6b0);(try clear c6b1);(try clear c6b2);(try clear c7);(try clear c10);(try clear c13);(try clear hcz11_0);(try clear hcz11_1);(try clear hcz12_0);(try clear hcz12_1);(try clear hcz8_0);(try clear hcz8_1);(try clear hcz9_0);(try clear hcz9_1);(try clear hfz11_0);(try clear hfz11_1);(try clear hfz12_0);(try clear hfz12_1);(try clear hfz8_0);(try clear hfz8_1);(try clear hfz9_0);(try clear hfz9_1);(try clear p2);obtain ⟨x5_2, rfl, HA, HK2, BK101, BK102, HB⟩ := hrel
     cases gk with
     | zero => exact absurd HA.out (by simp [epitomeref06_Same.l0])
     | succ k2 =>
      have H := HA.out;clear HA;simp only [epitomeref06_Same.l0] at H
      by_cases c14 : x5_2 < (l0_0.length : Int)
      ·rw [if_pos c14] at H;have c14b0 : decide (x5_2 < (l0_0.length : Int)) = true := decide_eq_true c14
       clear c14;by_cases c15 : 0 ≤ x5_2
       ·rw [if_pos c15] at H;have c15b0 : decide (0 ≤ x5_2) = true := decide_eq_true c15
        clear c15;by_cases c16 : x5_2 < (l1_0.length : Int)
        ·rw [if_pos c16] at H;have c16b0 : decide (x5_2 < (l1_0.length : Int)) = true := decide_eq_true c16
         clear c16;by_cases c17 : (rdOf ByteArray.empty l0_0 x5_2).toList = (rdOf ByteArray.empty l1_0 x5_2).toList
         ·rw [if_pos c17] at H;have c17b0 : ((rdOf ByteArray.empty l0_0 x5_2).toList == (rdOf ByteArray.empty l1_0 x5_2).toList) = true := beq_iff_eq.mpr c17
          have c17b1 : ((rdOf ByteArray.empty l0_0 x5_2).toList != (rdOf ByteArray.empty l1_0 x5_2).toList) = false := bne_eq_false_iff_eq.mpr c17
          clear c17;have H' := Am H
          clear H;have hnb18 := NB101_102.out;have hnc18 := NB102_101.out;obtain ⟨hcz19_0, hcz19_1, hfz19_0, hfz19_1⟩ := zc2 BK101;have p103 : 0 ≤ (x5_2 : Int) := of_decide_eq_true (by assumption)
          have q103 : x5_2 < (l0_0.length : Int) := of_decide_eq_true (by assumption)
          obtain ⟨ad103, e103, hx103_0⟩ := Kd.at_string HR0_0.out x5_2 p103 q103
          cases e103
          replace hx103_0 := (HB.out.cell (World.block_lt_of_cell? w _ hx103_0)).trans hx103_0
          replace p103 := eq_true p103;replace q103 := eq_true q103;obtain ⟨hcz20_0, hcz20_1, hfz20_0, hfz20_1⟩ := zc2 BK102;have p104 : 0 ≤ (x5_2 : Int) := of_decide_eq_true (by assumption)
          have q104 : x5_2 < (l1_0.length : Int) := of_decide_eq_true (by assumption)
          obtain ⟨ad104, e104, hx104_0⟩ := Kd.at_string HR1_0.out x5_2 p104 q104
          cases e104
          replace hx104_0 := (HB.out.cell (World.block_lt_of_cell? w _ hx104_0)).trans hx104_0
          replace p104 := eq_true p104;replace q104 := eq_true q104;go_wp2
          repeat (go_quiet (fail); try go_wp2)
          go_roundg k2
          case measure => have := HJ2.out; have := HK2.out; omega
          case rel => exact ⟨(wrap64 (x5_2 + 1)), zG, H', ⟨by have := HJ2.out; have := HK2.out; omega⟩, ⟨(zK BK101)⟩, ⟨(zK BK102)⟩, ⟨(zB HB)⟩⟩
         ·rw [if_neg c17] at H;have c17b0 : ((rdOf ByteArray.empty l0_0 x5_2).toList == (rdOf ByteArray.empty l1_0 x5_2).toList) = false := beq_eq_false_iff_ne.mpr c17
          have c17b1 : ((rdOf ByteArray.empty l0_0 x5_2).toList != (rdOf ByteArray.empty l1_0 x5_2).toList) = true := bne_iff_ne.mpr c17
          obtain rfl := Option.some.inj H;have hnb21 := NB101_102.out;have hnc21 := NB102_101.out;obtain ⟨hcz22_0, hcz22_1, hfz22_0, hfz22_1⟩ := zc2 BK101;have p103 : 0 ≤ (x5_2 : Int) := of_decide_eq_true (by assumption)
          have q103 : x5_2 < (l0_0.length : Int) := of_decide_eq_true (by assumption)
          obtain ⟨ad103, e103, hx103_0⟩ := Kd.at_string HR0_0.out x5_2 p103 q103
          cases e103
          replace hx103_0 := (HB.out.cell (World.block_lt_of_cell? w _ hx103_0)).trans hx103_0
          replace p103 := eq_true p103;replace q103 := eq_true q103;obtain ⟨hcz23_0, hcz23_1, hfz23_0, hfz23_1⟩ := zc2 BK102;have p104 : 0 ≤ (x5_2 : Int) := of_decide_eq_true (by assumption)
          have q104 : x5_2 < (l1_0.length : Int) := of_decide_eq_true (by assumption)
          obtain ⟨ad104, e104, hx104_0⟩ := Kd.at_string HR1_0.out x5_2 p104 q104
          cases e104
          replace hx104_0 := (HB.out.cell (World.block_lt_of_cell? w _ hx104_0)).trans hx104_0
          replace p104 := eq_true p104;replace q104 := eq_true q104;go_wp2
          repeat (go_quiet (fail); try go_wp2)
          go_ret
          exact ⟨zF, (zB HB)⟩
        ·rw [if_neg c16] at H;exact absurd H (by simp)
       ·rw [if_neg c15] at H;exact absurd H (by simp)
      ·rw [if_neg c14] at H;have c14b0 : decide (x5_2 < (l0_0.length : Int)) = false := decide_eq_false c14
       clear c14;have H' := Am H
       clear H;have hnb24 := NB101_102.out;have hnc24 := NB102_101.out;obtain ⟨hcz25_0, hcz25_1, hfz25_0, hfz25_1⟩ := zc2 BK101;go_wp2
       repeat (go_quiet (fail); try go_wp2)
       go_loopg [6] k2 (fun kq v6 w' => ∃ (x6_3 : Int), v6 = .int .i64 x6_3 ∧ Aside0 (epitomeref06_Same.l1 kq x6_3 l0_0 l0_1 l1_0 l1_1 = some r) ∧ Aside0 (kq ≤ k2) ∧ Aside0 (w'.heap[gb101]? = some (.cells #[(.slice A0_0 l0_0.length c0_0), (.slice A0_1 l0_1.length c0_1)] 32 (0, 0))) ∧ Aside0 (w'.heap[gb102]? = some (.cells #[(.slice A1_0 l1_0.length c1_0), (.slice A1_1 l1_1.length c1_1)] 32 (0, 0))) ∧ Aside0 (Below w.heap.size w w'))
       case atStart => exact ⟨(0), zG, H', ⟨Nat.le_refl _⟩, ⟨(zK BK101)⟩, ⟨(zK BK102)⟩, ⟨(zB HB)⟩⟩
       case round =>
        clear H';(try clear c1);(try clear p1);(try clear q1);(try clear hx1);(try clear c2);(try clear p2);(try clear c6);(try clear c6b0);(try clear c6b1);(try clear c6b2);(try clear p6);(try clear c7);(try clear c10);(try clear p10);(try clear q10);(try clear hx10);(try clear c13);(try clear c14);(try clear c14b0);(try clear c15);(try clear c15b0);(try clear c16);(try clear c16b0);(try clear c17);(try clear c17b0);(try clear c17b1);(try clear c18);(try clear c21);(try clear c24);(try clear hcz11_0);(try clear hcz11_1);(try clear hcz12_0);(try clear hcz12_1);(try clear hcz19_0);(try clear hcz19_1);(try clear hcz20_0);(try clear hcz20_1);(try clear hcz22_0);(try clear hcz22_1);(try clear hcz23_0);(try clear hcz23_1);(try clear hcz25_0);(try clear hcz25_1);(try clear hcz8_0);(try clear hcz8_1);(try clear hcz9_0);(try clear hcz9_1);(try clear hfz11_0);(try clear hfz11_1);(try clear hfz12_0);(try clear hfz12_1);(try clear hfz19_0);(try clear hfz19_1);(try clear hfz20_0);(try clear hfz20_1);(try clear hfz22_0);(try clear hfz22_1);(try clear hfz23_0);(try clear hfz23_1);(try clear hfz25_0);(try clear hfz25_1);(try clear hfz8_0);(try clear hfz8_1);(try clear hfz9_0);(try clear hfz9_1);(try clear hx103_0);(try clear hx104_0);(try clear p103);(try clear p104);(try clear p2);(try clear q103);(try clear q104);obtain ⟨x6_3, rfl, HA, HK3, BK101, BK102, HB⟩ := hrel
        cases gk with
        | zero => exact absurd HA.out (by simp [epitomeref06_Same.l1])
        | succ k3 =>
         have H := HA.out;clear HA;simp only [epitomeref06_Same.l1] at H
         by_cases c26 : x6_3 < (l0_1.length : Int)
         ·rw [if_pos c26] at H;have c26b0 : decide (x6_3 < (l0_1.length : Int)) = true := decide_eq_true c26
          clear c26;by_cases c27 : 0 ≤ x6_3
          ·rw [if_pos c27] at H;have c27b0 : decide (0 ≤ x6_3) = true := decide_eq_true c27
           clear c27;by_cases c28 : x6_3 < (l1_1.length : Int)
           ·rw [if_pos c28] at H;have c28b0 : decide (x6_3 < (l1_1.length : Int)) = true := decide_eq_true c28
            clear c28;by_cases c29 : ((rdOf false l0_1 x6_3) != (rdOf false l1_1 x6_3)) = true
            ·rw [if_pos c29] at H;have c29b0 : ((rdOf false l0_1 x6_3) != (rdOf false l1_1 x6_3)) = true := c29
             (try (have c29b1 : decide ((rdOf false l0_1 x6_3) = (rdOf false l1_1 x6_3)) = false := by simpa using c29))
             (try (have c29b2 : ((rdOf false l0_1 x6_3) == (rdOf false l1_1 x6_3)) = false := by simpa using c29))
             (try (have c29b3 : ¬ ((rdOf false l0_1 x6_3) = (rdOf false l1_1 x6_3)) := by simpa using c29))
             (try (have c29b4 : (rdOf false l0_1 x6_3) = true := neb_l (a := (rdOf false l0_1 x6_3)) (b := (rdOf false l1_1 x6_3)) (v := false) (by first | exact c29 | simpa using c29) (by assumption)))
             (try (have c29b5 : (rdOf false l0_1 x6_3) = false := neb_l (a := (rdOf false l0_1 x6_3)) (b := (rdOf false l1_1 x6_3)) (v := true) (by first | exact c29 | simpa using c29) (by assumption)))
             (try (have c29b6 : (rdOf false l1_1 x6_3) = true := neb_r (a := (rdOf false l0_1 x6_3)) (b := (rdOf false l1_1 x6_3)) (v := false) (by first | exact c29 | simpa using c29) (by assumption)))
             (try (have c29b7 : (rdOf false l1_1 x6_3) = false := neb_r (a := (rdOf false l0_1 x6_3)) (b := (rdOf false l1_1 x6_3)) (v := true) (by first | exact c29 | simpa using c29) (by assumption)))
             clear c29;obtain rfl := Option.some.inj H;have hnb30 := NB101_102.out;have hnc30 := NB102_101.out;obtain ⟨hcz31_0, hcz31_1, hfz31_0, hfz31_1⟩ := zc2 BK101;have p105 : 0 ≤ (x6_3 : Int) := of_decide_eq_true (by assumption)
             have q105 : x6_3 < (l0_1.length : Int) := of_decide_eq_true (by assumption)
             obtain ⟨ad105, e105, hx105_0⟩ := Kd.at_bool HR0_1.out x6_3 p105 q105
             cases e105
             replace hx105_0 := (HB.out.cell (World.block_lt_of_cell? w _ hx105_0)).trans hx105_0
             replace p105 := eq_true p105;replace q105 := eq_true q105;obtain ⟨hcz32_0, hcz32_1, hfz32_0, hfz32_1⟩ := zc2 BK102;have p106 : 0 ≤ (x6_3 : Int) := of_decide_eq_true (by assumption)
             have q106 : x6_3 < (l1_1.length : Int) := of_decide_eq_true (by assumption)
             obtain ⟨ad106, e106, hx106_0⟩ := Kd.at_bool HR1_1.out x6_3 p106 q106
             cases e106
             replace hx106_0 := (HB.out.cell (World.block_lt_of_cell? w _ hx106_0)).trans hx106_0
             replace p106 := eq_true p106;replace q106 := eq_true q106;go_wp2
             repeat (go_quiet (fail); try go_wp2)
             go_ret
             exact ⟨zF, (zB HB)⟩
            ·rw [if_neg c29] at H;have c29b0 : ((rdOf false l0_1 x6_3) != (rdOf false l1_1 x6_3)) = false := by simpa using c29
             (try (have c29b1 : decide ((rdOf false l0_1 x6_3) = (rdOf false l1_1 x6_3)) = true := by simpa using c29))
             (try (have c29b2 : ((rdOf false l0_1 x6_3) == (rdOf false l1_1 x6_3)) = true := by simpa using c29))
             (try (have c29b3 : (rdOf false l0_1 x6_3) = true := eqb_l (a := (rdOf false l0_1 x6_3)) (b := (rdOf false l1_1 x6_3)) (v := true) (by first | exact c29 | simpa using c29) (by assumption)))
             (try (have c29b4 : (rdOf false l0_1 x6_3) = false := eqb_l (a := (rdOf false l0_1 x6_3)) (b := (rdOf false l1_1 x6_3)) (v := false) (by first | exact c29 | simpa using c29) (by assumption)))
             (try (have c29b5 : (rdOf false l1_1 x6_3) = true := eqb_r (a := (rdOf false l0_1 x6_3)) (b := (rdOf false l1_1 x6_3)) (v := true) (by first | exact c29 | simpa using c29) (by assumption)))
             (try (have c29b6 : (rdOf false l1_1 x6_3) = false := eqb_r (a := (rdOf false l0_1 x6_3)) (b := (rdOf false l1_1 x6_3)) (v := false) (by first | exact c29 | simpa using c29) (by assumption)))
             clear c29;have H' := Am H
             clear H;have hnb33 := NB101_102.out;have hnc33 := NB102_101.out;obtain ⟨hcz34_0, hcz34_1, hfz34_0, hfz34_1⟩ := zc2 BK101;have p105 : 0 ≤ (x6_3 : Int) := of_decide_eq_true (by assumption)
             have q105 : x6_3 < (l0_1.length : Int) := of_decide_eq_true (by assumption)
             obtain ⟨ad105, e105, hx105_0⟩ := Kd.at_bool HR0_1.out x6_3 p105 q105
             cases e105
             replace hx105_0 := (HB.out.cell (World.block_lt_of_cell? w _ hx105_0)).trans hx105_0
             replace p105 := eq_true p105;replace q105 := eq_true q105;obtain ⟨hcz35_0, hcz35_1, hfz35_0, hfz35_1⟩ := zc2 BK102;have p106 : 0 ≤ (x6_3 : Int) := of_decide_eq_true (by assumption)
             have q106 : x6_3 < (l1_1.length : Int) := of_decide_eq_true (by assumption)
             obtain ⟨ad106, e106, hx106_0⟩ := Kd.at_bool HR1_1.out x6_3 p106 q106
             cases e106
             replace hx106_0 := (HB.out.cell (World.block_lt_of_cell? w _ hx106_0)).trans hx106_0
             replace p106 := eq_true p106;replace q106 := eq_true q106;go_wp2
             repeat (go_quiet (fail); try go_wp2)
             go_roundg k3
             case measure => have := HJ2.out; have := HK2.out; have := HK3.out; omega
             case rel => exact ⟨(wrap64 (x6_3 + 1)), zG, H', ⟨by have := HJ2.out; have := HK2.out; have := HK3.out; omega⟩, ⟨(zK BK101)⟩, ⟨(zK BK102)⟩, ⟨(zB HB)⟩⟩
           ·rw [if_neg c28] at H;exact absurd H (by simp)
          ·rw [if_neg c27] at H;exact absurd H (by simp)
         ·rw [if_neg c26] at H;have c26b0 : decide (x6_3 < (l0_1.length : Int)) = false := decide_eq_false c26
          clear c26;obtain rfl := Option.some.inj H;have hnb36 := NB101_102.out;have hnc36 := NB102_101.out;obtain ⟨hcz37_0, hcz37_1, hfz37_0, hfz37_1⟩ := zc2 BK101;go_wp2
          repeat (go_quiet (fail); try go_wp2)
          go_ret
          exact ⟨zF, (zB HB)⟩
end Go.Proofs.YtekjfodfedpioaaDoor.F
end
section
namespace Go.Proofs.YtekjfodfedpioaaDoor.F
open Go.RowKit Go.Proofs.YtekjfodfedpioaaDoorW.PrintWords Go.Proofs.YtekjfodfedpioaaDoorW.PrintLast Go.Proofs.YtekjfodfedpioaaDoorW.PrintMore
set_option linter.unusedVariables false
set_option linter.unusedSimpArgs false
def cutAt (s : ByteArray) (acc : Nat) (x : Int) : Int := if x < (acc : Int) then (runeAt s x.toNat 0 : Int) else (s.size : Int)
theorem cutAt_same (s : ByteArray) (acc : Nat) (x : Int) (h : (acc : Int) = x) : ((runeAt s acc 0 : Nat) : Int) = cutAt s (acc + 1) x := by
  unfold cutAt
  rw [if_pos (by omega), show x.toNat = acc by omega]
theorem cutAt_other (s : ByteArray) (acc : Nat) (x : Int) (h : ¬ (acc : Int) = x) : cutAt s acc x = cutAt s (acc + 1) x := by
  unfold cutAt
  by_cases h1 : x < (acc : Int)
  · rw [if_pos h1, if_pos (by omega)]
  · rw [if_neg h1, if_neg (by omega)]
set_option maxHeartbeats 4000000 in
theorem points_Cut_inner (a0 : ByteArray) (a1 a2 : Int) (w : World) (hG : Glob w) (hs : a0.size < 9223372036854775807) (hv : Lib.validD a0.data.toList = true) (h1 : 0 ≤ a1) (h2 : a1 ≤ a2) (h3 : a2 ≤ (Lib.runeCount a0 : Int))
    (h4 : runeAt a0 a1.toNat 0 ≤ runeAt a0 a2.toNat 0) (h5 : runeAt a0 a2.toNat 0 ≤ a0.size) :
    Calls Tryd.prog 16 #[.string a0, .int .i64 a1, .int .i64 a2] w fun e w' => e = .returned (.tuple #[.string (a0.extract (runeAt a0 a1.toNat 0) (runeAt a0 a2.toNat 0)), .int .i64 0]) ∧ Below w.heap.size w w' := by
  have HG := Aside0.mk hG
  have HS := Aside0.mk hs
  have HV : Aside0 (points_Count.f a0 = some (Lib.runeCount a0 : Int)) := ⟨by unfold points_Count.f; rw [if_pos (Nat.le_of_lt hs), if_pos hv]⟩
  have H3 := Aside0.mk h3
  have H12 := Aside0.mk (And.intro h1 h2)
  have H45 := Aside0.mk (And.intro h4 h5)
  have d0 : decide ((Lib.runeCount a0 : Int) < 0) = false := decide_eq_false (by omega)
  have d1 : decide (a1 < 0) = false := decide_eq_false (by omega)
  have d2 : decide (a2 < a1) = false := decide_eq_false (by omega)
  have d3 : decide ((Lib.runeCount a0 : Int) < a2) = false := decide_eq_false (by omega)
  clear hG hs hv h1 h2 h3 h4 h5
  go_enter Tryd.func16, Tryd.ntmps16
  go_wp2_with (go_at_call 14; (with_reducible refine (points_Count.calls _ _ _ HG.out HV.out).mono ?_); rintro e w' ⟨rfl, hb⟩; have HB := Aside0.mk hb; clear hb)
  obtain ⟨w1, rfl⟩ : ∃ w1 : World, w1 = w' := ⟨_, rfl⟩
  go_loopw [9, 10, 11] (fun v9 v10 n w' => ∃ (pos b acc : Nat), w' = w1.iter a0 pos ∧ n = .int .i64 acc ∧ Aside0 (acc + Lib.runeCountFrom a0 b pos = Lib.runeCount a0) ∧ Aside0 (a0.size ≤ pos + b ∧ acc ≤ pos) ∧ Aside0 (pos = runeAt a0 acc 0) ∧ v9 = .int .i64 (cutAt a0 acc a1) ∧ v10 = .int .i64 (cutAt a0 acc a2)) (fun _ _ _ w' => a0.size - w'.iterPos w1.heap.size)
  case atStart => exact ⟨0, a0.size, 0, rfl, rfl, ⟨by simp [Lib.runeCount]⟩, ⟨by omega, Nat.le_refl _⟩, ⟨rfl⟩, by unfold cutAt; rw [if_neg (by have := H12.out; omega)], by unfold cutAt; rw [if_neg (by have := H12.out; omega)]⟩
  case round =>
    clear d0 d1 d2 d3
    obtain ⟨pos, b, acc, rfl, rfl, HC, HBB, HP, rfl, rfl⟩ := hrel
    by_cases hp : pos < a0.size
    · have hnx : ∀ ty, (Instr.next (.pointer (some ⟨w1.heap.size, 0, none⟩)) true ty).run Tryd.prog (w1.iter a0 pos) = _ := fun ty => run_next_any w1 a0 pos ty hp
      have HWD := Aside0.mk (Lib.decode_width_pos a0 pos hp)
      have hac : (acc : Int) < 9223372036854775807 := by have := HBB.out; have := HS.out; omega
      have next : Aside0 (∃ b', acc + 1 + Lib.runeCountFrom a0 b' (pos + (Utf8.decode a0 pos).2) = Lib.runeCount a0 ∧ a0.size ≤ pos + (Utf8.decode a0 pos).2 + b' ∧ acc + 1 ≤ pos + (Utf8.decode a0 pos).2) := ⟨by
        have hc := HC.out; have hb := HBB.out; have hw := HWD.out
        cases b with
        | zero => omega
        | succ b =>
          refine ⟨b, ?_, by omega, by omega⟩
          rw [← hc]
          simp [Lib.runeCountFrom, hp]
          omega⟩
      have HP2 : Aside0 (pos + (Utf8.decode a0 pos).2 = runeAt a0 (acc + 1) 0) := ⟨by rw [runeAt_snoc, ← HP.out]⟩
      have HM : Aside0 (a0.size - (pos + (Utf8.decode a0 pos).2) < a0.size - pos) := ⟨by have := HWD.out; omega⟩
      by_cases e1 : (acc : Int) = a1
      · have f1 : ((acc : Int) == a1) = true := by simp [e1]
        have q1 : Aside0 ((pos : Int) = cutAt a0 (acc + 1) a1) := ⟨by rw [HP.out]; exact cutAt_same a0 acc a1 e1⟩
        by_cases e2 : (acc : Int) = a2
        · have f2 : ((acc : Int) == a2) = true := by simp [e2]
          have q2 : Aside0 ((pos : Int) = cutAt a0 (acc + 1) a2) := ⟨by rw [HP.out]; exact cutAt_same a0 acc a2 e2⟩
          clear e1 e2
          go_wp2
          go_roundw
          case rel =>
            obtain ⟨b', n1, n2, n3⟩ := next.out
            exact ⟨pos + (Utf8.decode a0 pos).2, b', acc + 1, rfl, by go_num, ⟨n1⟩, ⟨n2, n3⟩, HP2, by rw [q1.out], by rw [q2.out]⟩
          case measure =>
            simp
            exact HM.out
        · have f2 : ((acc : Int) == a2) = false := by simp [e2]
          have q2 : Aside0 (cutAt a0 acc a2 = cutAt a0 (acc + 1) a2) := ⟨cutAt_other a0 acc a2 e2⟩
          clear e1 e2
          go_wp2
          go_roundw
          case rel =>
            obtain ⟨b', n1, n2, n3⟩ := next.out
            exact ⟨pos + (Utf8.decode a0 pos).2, b', acc + 1, rfl, by go_num, ⟨n1⟩, ⟨n2, n3⟩, HP2, by rw [q1.out], by rw [q2.out]⟩
          case measure =>
            simp
            exact HM.out
      · have f1 : ((acc : Int) == a1) = false := by simp [e1]
        have q1 : Aside0 (cutAt a0 acc a1 = cutAt a0 (acc + 1) a1) := ⟨cutAt_other a0 acc a1 e1⟩
        by_cases e2 : (acc : Int) = a2
        · have f2 : ((acc : Int) == a2) = true := by simp [e2]
          have q2 : Aside0 ((pos : Int) = cutAt a0 (acc + 1) a2) := ⟨by rw [HP.out]; exact cutAt_same a0 acc a2 e2⟩
          clear e1 e2
          go_wp2
          go_roundw
          case rel =>
            obtain ⟨b', n1, n2, n3⟩ := next.out
            exact ⟨pos + (Utf8.decode a0 pos).2, b', acc + 1, rfl, by go_num, ⟨n1⟩, ⟨n2, n3⟩, HP2, by rw [q1.out], by rw [q2.out]⟩
          case measure =>
            simp
            exact HM.out
        · have f2 : ((acc : Int) == a2) = false := by simp [e2]
          have q2 : Aside0 (cutAt a0 acc a2 = cutAt a0 (acc + 1) a2) := ⟨cutAt_other a0 acc a2 e2⟩
          clear e1 e2
          go_wp2
          go_roundw
          case rel =>
            obtain ⟨b', n1, n2, n3⟩ := next.out
            exact ⟨pos + (Utf8.decode a0 pos).2, b', acc + 1, rfl, by go_num, ⟨n1⟩, ⟨n2, n3⟩, HP2, by rw [q1.out], by rw [q2.out]⟩
          case measure =>
            simp
            exact HM.out
    · have hnx : ∀ ty, (Instr.next (.pointer (some ⟨w1.heap.size, 0, none⟩)) true ty).run Tryd.prog (w1.iter a0 pos) = _ := fun ty => run_next_end w1 a0 pos ty hp
      have hc := HC.out
      rw [Lib.runeCountFrom_end a0 b pos hp, Nat.add_zero] at hc
      have h3 := H3.out
      have h12 := H12.out
      have h45 := H45.out
      have hpp := HP.out
      have last : ∀ x : Int, x = (acc : Int) → runeAt a0 x.toNat 0 ≤ a0.size → runeAt a0 x.toNat 0 = a0.size := by
        intro x hx hle
        rw [hx, Int.toNat_natCast, ← hpp] at hle ⊢
        omega
      have e2 : cutAt a0 acc a2 = ((runeAt a0 a2.toNat 0 : Nat) : Int) := by
        unfold cutAt
        by_cases hlt : a2 < (acc : Int)
        · rw [if_pos hlt]
        · rw [if_neg hlt, last a2 (by omega) h45.2]
      have e1 : cutAt a0 acc a1 = ((runeAt a0 a1.toNat 0 : Nat) : Int) := by
        unfold cutAt
        by_cases hlt : a1 < (acc : Int)
        · rw [if_pos hlt]
        · rw [if_neg hlt, last a1 (by omega) (by omega)]
      rw [e1, e2]
      clear e1 e2 last hpp h3 h12 hc HC HBB HP H3 H12 HV
      obtain ⟨x, hx⟩ : ∃ x, runeAt a0 a1.toNat 0 = x := ⟨_, rfl⟩
      obtain ⟨y, hy⟩ : ∃ y, runeAt a0 a2.toNat 0 = y := ⟨_, rfl⟩
      rw [hx, hy] at h45 ⊢
      obtain ⟨hxy, hys⟩ := h45
      have HX := Aside0.mk hx
      have HY := Aside0.mk hy
      clear hx hy H45
      have c0 : (x : Int) ≤ (y : Int) := by omega
      have c1 : (y : Int) ≤ (a0.size : Int) := by omega
      go_wp2
      go_ret2
      refine ⟨by rw [HX.out, HY.out]; rfl, ?_⟩
      exact below_alloc HB.out _
set_option maxHeartbeats 4000000 in
theorem points_Cut.calls (a0 : ByteArray) (a1 a2 : Int) (r1 : ByteArray) (r2 : Int) (w : World) (hG : Glob w) (h : points_Cut.f a0 a1 a2 = some (r1, r2)) :
  Calls Tryd.prog 16 #[.string a0, .int .i64 a1, .int .i64 a2] w fun e w' => e = .returned (.tuple #[.string r1, .int .i64 r2]) ∧ Below w.heap.size w w' := by
 unfold points_Cut.f at h
 split at h
 ·next hs =>
  have hcn : ∀ b, Lib.validD a0.data.toList = b → points_Count.f a0 = some (if b = true then (Lib.runeCount a0 : Int) else -1) := by intro b hb; unfold points_Count.f; rw [if_pos (Nat.le_of_lt hs), hb]
  split at h
  ·next hv =>
   have HG := Aside0.mk hG;have HV := Aside0.mk (hcn true hv)
   split at h
   ·next c1 =>
    obtain ⟨rfl, rfl⟩ : ⟨#[]⟩ = r1 ∧ 6 = r2 := by simpa using h
    have d0 : decide ((Lib.runeCount a0 : Int) < 0) = false := decide_eq_false (by omega)
    have d1 : decide (a1 < 0) = true := decide_eq_true c1
    clear hG h hs hv hcn c1;go_enter Tryd.func16, Tryd.ntmps16
    go_wp2_with (go_at_call 14; (with_reducible refine (points_Count.calls _ _ _ HG.out HV.out).mono ?_); rintro e w' ⟨rfl, hb⟩; have HB := Aside0.mk hb; clear hb)
    go_ret2
    exact ⟨rfl, HB.out⟩
   ·next c1 =>
    split at h
    ·next c2 =>
     obtain ⟨rfl, rfl⟩ : ⟨#[]⟩ = r1 ∧ 6 = r2 := by simpa using h
     have d0 : decide ((Lib.runeCount a0 : Int) < 0) = false := decide_eq_false (by omega)
     have d1 : decide (a1 < 0) = false := decide_eq_false c1
     have d2 : decide (a2 < a1) = true := decide_eq_true c2
     clear hG h hs hv hcn c1 c2;go_enter Tryd.func16, Tryd.ntmps16
     go_wp2_with (go_at_call 14; (with_reducible refine (points_Count.calls _ _ _ HG.out HV.out).mono ?_); rintro e w' ⟨rfl, hb⟩; have HB := Aside0.mk hb; clear hb)
     go_ret2
     exact ⟨rfl, HB.out⟩
    ·next c2 =>
     split at h
     ·next c3 =>
      obtain ⟨rfl, rfl⟩ : ⟨#[]⟩ = r1 ∧ 6 = r2 := by simpa using h
      have d0 : decide ((Lib.runeCount a0 : Int) < 0) = false := decide_eq_false (by omega)
      have d1 : decide (a1 < 0) = false := decide_eq_false c1
      have d2 : decide (a2 < a1) = false := decide_eq_false c2
      have d3 : decide ((Lib.runeCount a0 : Int) < a2) = true := decide_eq_true c3
      clear hG h hs hv hcn c1 c2 c3;go_enter Tryd.func16, Tryd.ntmps16
      go_wp2_with (go_at_call 14; (with_reducible refine (points_Count.calls _ _ _ HG.out HV.out).mono ?_); rintro e w' ⟨rfl, hb⟩; have HB := Aside0.mk hb; clear hb)
      go_ret2
      exact ⟨rfl, HB.out⟩
     ·next c3 =>
      split at h
      ·next c4 =>
       obtain ⟨rfl, rfl⟩ : a0.extract (runeAt a0 a1.toNat 0) (runeAt a0 a2.toNat 0) = r1 ∧ 0 = r2 := by simpa using h
       exact points_Cut_inner a0 a1 a2 w hG hs hv (by omega) (by omega) (by omega) c4.1 c4.2
      ·cases h
  ·next hv =>
   have HG := Aside0.mk hG;have HV := Aside0.mk (hcn false (by simpa using hv))
   obtain ⟨rfl, rfl⟩ : ⟨#[]⟩ = r1 ∧ 3 = r2 := by simpa using h
   clear hG h hs hv hcn;go_enter Tryd.func16, Tryd.ntmps16
   go_wp2_with (go_at_call 14; (with_reducible refine (points_Count.calls _ _ _ HG.out HV.out).mono ?_); rintro e w' ⟨rfl, hb⟩; have HB := Aside0.mk hb; clear hb)
   go_ret2
   exact ⟨rfl, HB.out⟩
 ·cases h
end Go.Proofs.YtekjfodfedpioaaDoor.F
end
section
namespace Go.Proofs.YtekjfodfedpioaaDoor.F
open Go.RowKit Go.Proofs.YtekjfodfedpioaaDoorW.PrintWords Go.Proofs.YtekjfodfedpioaaDoorW.PrintLast Go.Proofs.YtekjfodfedpioaaDoorW.PrintMore
set_option linter.unusedVariables false
set_option linter.unusedSimpArgs false
def fillG (g : List Bool) (at_ n : Nat) (b : Bool) : List Bool := g.take at_ ++ List.replicate n b ++ g.drop (at_ + n)
def gapsL : List S55 → Nat → List ByteArray → List Bool → Option (List ByteArray × List Bool)
  | [], _, p, g => some (p, g)
  | s :: r, a, p, g => if a + s.f1.toNat ≤ 512 ∧ (p.getD a ⟨#[]⟩).size + s.f2.size ≤ 9223372036854775807 then
      gapsL r (a + s.f1.toNat) (p.set a (p.getD a ⟨#[]⟩ ++ s.f2)) (fillG g a s.f1.toNat (s.f0 == 3)) else none
def gaps_Of.f (k : Nat) (l : List S55) : Option (List ByteArray × List Bool × Int) :=
  (op_May.f k l).bind fun e => if e = 0 then ((op_In.f k l).bind fun n => if n > 512 then some ([], [], 4) else if 0 ≤ n then
    ((gapsL l 0 (List.replicate 513 ⟨#[]⟩) (List.replicate 512 false)).bind fun r => some (r.1.take (n.toNat + 1), r.2.take n.toNat, 0)) else none)
  else some ([], [], e)
theorem gaps_Of.mono (l : List S55) (k : Nat) : LeO (gaps_Of.f k l) (gaps_Of.f (k + 1) l) := by
  unfold gaps_Of.f
  refine LeO.bind (op_May.mono _ _) (fun e => ?_)
  split
  · exact LeO.bind (op_In.mono _ _) (fun n => LeO.refl _)
  · exact LeO.refl _
theorem slice_arrP (W : World) (g n : Nat) (h : n ≤ 513) : (Instr.sliceAt 66 (.pointer (some ⟨g, 0, none⟩)) none (some (.int .i64 (n : Int))) none).run Tryd.prog W = .ok (.slice (some ⟨g, 0, none⟩) n 513) W := by
  have hl : Tryd.prog.arrayLen 66 = 513 := by kernel_rfl
  have hs : (Go.sizeOf (Tryd.prog.elem 66)).run Tryd.prog W = .ok 1 W := by kernel_rfl
  rw [run_sliceAt_array_h W 66 _ (by kernel_rfl) .i64 n (by omega) (by rw [hl]; omega), hs, hl]
  simp [slicedAt, Addr.add]
theorem slice_arrG (W : World) (g n : Nat) (h : n ≤ 512) : (Instr.sliceAt 67 (.pointer (some ⟨g, 0, none⟩)) none (some (.int .i64 (n : Int))) none).run Tryd.prog W = .ok (.slice (some ⟨g, 0, none⟩) n 512) W := by
  have hl : Tryd.prog.arrayLen 67 = 512 := by kernel_rfl
  have hs : (Go.sizeOf (Tryd.prog.elem 67)).run Tryd.prog W = .ok 1 W := by kernel_rfl
  rw [run_sliceAt_array_h W 67 _ (by kernel_rfl) .i64 n (by omega) (by rw [hl]; omega), hs, hl]
  simp [slicedAt, Addr.add]
structure OfSt (w wr : World) (gR gP gG : Nat) (put : List ByteArray) (gone : List Bool) : Prop where
  b : Below w.heap.size w wr
  r : wr.heap[gR]? = some (.cells #[.slice none 0 0, .slice none 0 0] 32 (0, 0))
  p : wr.heap[gP]? = some (.cells (put.map Value.string).toArray 66 (0, 0))
  g : wr.heap[gG]? = some (.cells (gone.map Value.bool).toArray 67 (0, 0))
  lp : put.length = 513
  lg : gone.length = 512
  hR : w.heap.size ≤ gR
  hP : w.heap.size ≤ gP
  hG : w.heap.size ≤ gG
theorem OfSt.below {w wr w3 : World} {gR gP gG : Nat} {put : List ByteArray} {gone : List Bool} (h : OfSt w wr gR gP gG put gone) (hb : Below wr.heap.size wr w3) : OfSt w w3 gR gP gG put gone :=
  ⟨below_step h.b hb, blk_below h.r hb, blk_below h.p hb, blk_below h.g hb, h.lp, h.lg, h.hR, h.hP, h.hG⟩
theorem OfSt.pg {w wr : World} {gR gP gG : Nat} {put : List ByteArray} {gone : List Bool} (h : OfSt w wr gR gP gG put gone) : gP ≠ gG := blk_ne h.p h.g (by decide)
theorem OfSt.rp {w wr : World} {gR gP gG : Nat} {put : List ByteArray} {gone : List Bool} (h : OfSt w wr gR gP gG put gone) : gR ≠ gP := blk_ne h.r h.p (by decide)
theorem OfSt.rg {w wr : World} {gR gP gG : Nat} {put : List ByteArray} {gone : List Bool} (h : OfSt w wr gR gP gG put gone) : gR ≠ gG := blk_ne h.r h.g (by decide)
theorem OfSt.setP {w wr : World} {gR gP gG : Nat} {put : List ByteArray} {gone : List Bool} (h : OfSt w wr gR gP gG put gone) (i : Nat) (u : ByteArray) : OfSt w (wr.setCell ⟨gP, i, none⟩ (.string u)) gR gP gG (put.set i u) gone :=
  ⟨h.b.setCell h.hP _, (Below.heap_setCell wr ⟨gP, i, none⟩ _ gR h.rp).trans h.r, blk_put h.p i _ (by simp [List.map_set]), (Below.heap_setCell wr ⟨gP, i, none⟩ _ gG h.pg.symm).trans h.g, by rw [List.length_set]; exact h.lp, h.lg, h.hR, h.hP, h.hG⟩
theorem OfSt.setG {w wr : World} {gR gP gG : Nat} {put : List ByteArray} {gone : List Bool} (h : OfSt w wr gR gP gG put gone) (i : Nat) (u : Bool) : OfSt w (wr.setCell ⟨gG, i, none⟩ (.bool u)) gR gP gG put (gone.set i u) :=
  ⟨h.b.setCell h.hG _, (Below.heap_setCell wr ⟨gG, i, none⟩ _ gR h.rg).trans h.r, (Below.heap_setCell wr ⟨gG, i, none⟩ _ gP h.pg).trans h.p, blk_put h.g i _ (by simp [List.map_set]), h.lp, by rw [List.length_set]; exact h.lg, h.hR, h.hP, h.hG⟩
theorem OfSt.cellP {w wr : World} {gR gP gG : Nat} {put : List ByteArray} {gone : List Bool} (h : OfSt w wr gR gP gG put gone) (i : Nat) (hi : i < 513) : wr.cell? ⟨gP, i, none⟩ = some (.string (put.getD i ⟨#[]⟩)) := by
  rw [blk_cell h.p i, List.getElem?_toArray, List.getElem?_map, List.getD_eq_getElem?_getD, List.getElem?_eq_getElem (by rw [h.lp]; exact hi)]
  rfl
theorem OfSt.cellG {w wr : World} {gR gP gG : Nat} {put : List ByteArray} {gone : List Bool} (h : OfSt w wr gR gP gG put gone) (i : Nat) (hi : i < 512) : wr.cell? ⟨gG, i, none⟩ = some (.bool (gone.getD i false)) := by
  rw [blk_cell h.g i, List.getElem?_toArray, List.getElem?_map, List.getD_eq_getElem?_getD, List.getElem?_eq_getElem (by rw [h.lg]; exact hi)]
  rfl
theorem of_vP {w wr : World} {gP : Nat} {put : List ByteArray} (hp : wr.heap[gP]? = some (.cells (put.map Value.string).toArray 66 (0, 0))) (hlen : put.length = 513) (hle : w.heap.size ≤ gP) (n : Nat) (hn : n ≤ 513) :
    Kd.V Kd.string 9 wr w.heap.size (fun k_ => w.heap.size ≤ k_) (.slice (some ⟨gP, 0, none⟩) n 513) (put.take n) := by
  have hl : (put.take n).length = n := by rw [List.length_take, hlen]; omega
  refine ⟨some ⟨gP, 0, none⟩, 513, by rw [hl], by omega, fun W' hW => ?_⟩
  have hb := (hW gP hle (blk_lt hp)).trans hp
  refine Kd.C_of_reads (enc := Value.string) (d := (⟨#[]⟩ : ByteArray)) (h1 := fun _ => rfl) ⟨rfl, by omega, fun _ => ⟨_, rfl, fun j hj => ?_⟩⟩
  rw [hl] at hj
  rw [add_plain, blk_cell hb j, List.getElem?_toArray, List.getElem?_map, List.getElem?_eq_getElem (by rw [hlen]; omega), List.getD_eq_getElem?_getD, List.getElem?_take, if_pos hj, List.getElem?_eq_getElem (by rw [hlen]; omega)]
  rfl
theorem of_vG {w wr : World} {gG : Nat} {gone : List Bool} (hp : wr.heap[gG]? = some (.cells (gone.map Value.bool).toArray 67 (0, 0))) (hlen : gone.length = 512) (hle : w.heap.size ≤ gG) (n : Nat) (hn : n ≤ 512) :
    Kd.V Kd.bool 4 wr w.heap.size (fun k_ => w.heap.size ≤ k_) (.slice (some ⟨gG, 0, none⟩) n 512) (gone.take n) := by
  have hl : (gone.take n).length = n := by rw [List.length_take, hlen]; omega
  refine ⟨some ⟨gG, 0, none⟩, 512, by rw [hl], by omega, fun W' hW => ?_⟩
  have hb := (hW gG hle (blk_lt hp)).trans hp
  refine Kd.C_of_reads (enc := Value.bool) (d := false) (h1 := fun _ => rfl) ⟨rfl, by omega, fun _ => ⟨_, rfl, fun j hj => ?_⟩⟩
  rw [hl] at hj
  rw [add_plain, blk_cell hb j, List.getElem?_toArray, List.getElem?_map, List.getElem?_eq_getElem (by rw [hlen]; omega), List.getD_eq_getElem?_getD, List.getElem?_take, if_pos hj, List.getElem?_eq_getElem (by rw [hlen]; omega)]
  rfl
theorem fillG_zero (g : List Bool) (a : Nat) (b : Bool) : fillG g a 0 b = g := by unfold fillG; simp
theorem fillG_step (g : List Bool) (a n : Nat) (b : Bool) (h : a + n < g.length) : (fillG g a n b).set (a + n) b = fillG g a (n + 1) b := by
  unfold fillG
  have e1 : g.drop (a + n) = g[a + n] :: g.drop (a + (n + 1)) := by rw [List.drop_eq_getElem_cons h]; rfl
  have l1 : (g.take a ++ List.replicate n b).length = a + n := by simp; omega
  rw [e1, List.set_append_right _ _ (by omega), l1, Nat.sub_self, List.set_cons_zero, List.replicate_succ', List.append_assoc, List.append_assoc, List.append_assoc]
  rfl
set_option maxHeartbeats 40000000 in
set_option maxRecDepth 100000 in
theorem gaps_Of_loop (k : Nat) (A0 : Option Addr) (c0 : Nat) (l0 : List S55) (n : Nat) (put : List ByteArray) (gone : List Bool) (w : World) (hG : Glob w)
    (hr0 : Kd.C k55 w A0 l0.length l0) (hc0 : l0.length ≤ c0) (h1 : op_May.f k l0 = some 0) (h2 : op_In.f k l0 = some (n : Int)) (hn : n ≤ 512)
    (h : gapsL l0 0 (List.replicate 513 ⟨#[]⟩) (List.replicate 512 false) = some (put, gone)) :
    Calls Tryd.prog 13 #[.slice A0 l0.length c0] w fun e w' => ∃ v0_ v1_ : Value, e = .returned (.tuple #[.agg #[v0_, v1_], .int .i64 0]) ∧ Kd.V Kd.string 9 w' w.heap.size (fun k_ => w.heap.size ≤ k_) v0_ (put.take (n + 1)) ∧ Kd.V Kd.bool 4 w' w.heap.size (fun k_ => w.heap.size ≤ k_) v1_ (gone.take n) ∧ Below w.heap.size w w' := by
  have HG := Aside0.mk hG
  have HR0 := Aside0.mk hr0
  have HC0 := Aside0.mk hc0
  have H1 := Aside0.mk h1
  have H2 := Aside0.mk h2
  have H := Aside0.mk h
  have HN := Aside0.mk hn
  have HM : Aside0 (l0.length ≤ 9223372036854775807) := ⟨hr0.2.1⟩
  have d1 : decide ((512 : Int) < (n : Int)) = false := decide_eq_false (by omega)
  clear hG hr0 hc0 h1 h2 h hn
  go_enter Tryd.func13, Tryd.ntmps13
  go_wp2_with (first | (go_at_call 39; (with_reducible refine (op_May.calls k _ _ l0 0 _ (HG.out.below (below_alloc (Below.refl _ _) _)) (Kd.C_alloc HR0.out _) HC0.out H1.out).mono ?_); rintro e w1 ⟨rfl, hb⟩; have HB1 := Aside0.mk hb; clear hb) | (go_at_call 25; (with_reducible refine (op_In.calls k _ _ l0 (n : Int) _ (HG.out.below (below_step (below_alloc (Below.refl _ _) _) HB1.out)) (Kd.C_below (Kd.C_alloc HR0.out _) HB1.out) HC0.out H2.out).mono ?_); rintro e w2 ⟨rfl, hb⟩; have HB2 := Aside0.mk hb; clear hb))
  have HI0 : Aside0 (OfSt w ((w2.alloc (.cells Tryd.zeroCells66 66)).alloc (.cells Tryd.zeroCells67 67)) w.heap.size w2.heap.size (w2.heap.size + 1) (List.replicate 513 ⟨#[]⟩) (List.replicate 512 false)) := ⟨by
    have b1 : Below w.heap.size w w2 := below_step (below_step (below_alloc (Below.refl _ _) _) HB1.out) HB2.out
    have z1 : w.heap.size < w1.heap.size := by have := HB1.out.size; rw [size_alloc] at this; omega
    have z2 : w1.heap.size ≤ w2.heap.size := HB2.out.size
    refine ⟨below_alloc (below_alloc b1 _) _, blk_alloc (blk_alloc (blk_below (blk_below (blk_new w _) HB1.out) HB2.out) _) _, ?_, ?_, by simp, by simp, Nat.le_refl _, by omega, by omega⟩
    · have := blk_alloc (blk_new w2 (.cells Tryd.zeroCells66 66)) (.cells Tryd.zeroCells67 67)
      rw [this]
      exact congrArg (fun c => some (Obj.cells c 66 (0, 0))) (by kernel_rfl)
    · have := blk_new (w2.alloc (.cells Tryd.zeroCells66 66)) (.cells Tryd.zeroCells67 67)
      rw [size_alloc] at this
      rw [this]
      exact congrArg (fun c => some (Obj.cells c 67 (0, 0))) (by kernel_rfl)⟩
  generalize w2.heap.size + 1 = gG at HI0 ⊢
  generalize w2.heap.size = gP at HI0 ⊢
  go_loopg [8, 24] l0.length (fun kq v8 v24 w' => ∃ (i a : Nat) (p : List ByteArray) (g : List Bool), v8 = .int .i64 a ∧ v24 = .int .i64 i ∧ Aside0 (i ≤ l0.length) ∧ Aside0 (kq = l0.length - i) ∧ Aside0 (a ≤ 512) ∧ Aside0 (OfSt w w' w.heap.size gP gG p g) ∧ Aside0 (gapsL (l0.drop i) a p g = some (put, gone)))
  case atStart => exact ⟨0, 0, _, _, rfl, rfl, ⟨Nat.zero_le _⟩, ⟨rfl⟩, ⟨Nat.zero_le _⟩, HI0, H⟩
  case round =>
    clear HI0 H
    obtain ⟨i, a, p, g, rfl, rfl, HI, HK, HA, ST, H⟩ := hrel
    by_cases hi : i < l0.length
    · have h := H.out
      rw [List.drop_eq_getElem_cons hi, gapsL] at h
      split at h
      · next hc =>
        obtain ⟨hc1, hc2⟩ := hc
        obtain ⟨s, hs⟩ : ∃ s, l0[i] = s := ⟨_, rfl⟩
        rw [hs] at h hc1 hc2
        obtain ⟨ad, e, hx0, hx1, hx2⟩ := at_T55 (Kd.C_below HR0.out ST.out.b) (i : Int) (by omega) (by omega)
        cases e
        have hrd : rd_T55 l0 (i : Int) = s := by
          unfold rd_T55
          rw [Int.toNat_natCast, List.getD_eq_getElem?_getD, List.getElem?_eq_getElem hi]
          exact hs
        rw [hrd, Int.toNat_natCast] at hx0 hx1 hx2
        have HNX := Aside0.mk h
        have STA := Aside0.mk (ST.out.below (below_alloc (Below.refl _ _) (.cells #[.int .i64 s.f0, .int .i64 s.f1, .string s.f2] 55)))
        have cp := STA.out.cellP a (by have := HA.out; omega)
        have fp := blk_frozen STA.out.p a
        obtain ⟨pa, hpa⟩ : ∃ pa, p.getD a ⟨#[]⟩ = pa := ⟨_, rfl⟩
        rw [hpa] at cp hc2
        have HPA := Aside0.mk hpa
        clear hpa
        have cs2 : (wr.alloc (.cells #[.int .i64 s.f0, .int .i64 s.f1, .string s.f2] 55)).cell? ⟨wr.heap.size, 2, none⟩ = some (.string s.f2) := (blk_cell (blk_new wr _) 2).trans rfl
        have i1 : decide (i < l0.length) = true := decide_eq_true hi
        have a1 : (a : Int) < 513 := by have := HA.out; omega
        have a2 : a < 513 := by have := HA.out; omega
        have HMI : Aside0 ((i : Int) < 9223372036854775807) := ⟨by have := HM.out; omega⟩
        clear h hs hrd
        go_wp2
        go_region
        obtain ⟨bx, hbx⟩ : ∃ bx, wr.heap.size = bx := ⟨_, rfl⟩
        have BX0 : (wr.alloc (.cells #[.int .i64 s.f0, .int .i64 s.f1, .string s.f2] 55)).heap[bx]? = some (.cells #[.int .i64 s.f0, .int .i64 s.f1, .string s.f2] 55 (0, 0)) := hbx ▸ blk_new wr _
        have hne : bx ≠ gP := by have := blk_lt ST.out.p; omega
        have hneG : Aside0 (bx ≠ gG) := ⟨by have := blk_lt ST.out.g; omega⟩
        have STB : Aside0 (OfSt w (((wr.alloc (.cells #[.int .i64 s.f0, .int .i64 s.f1, .string s.f2] 55)).setCell ⟨gP, a, none⟩ (.string (pa ++ s.f2))).drew) w.heap.size gP gG (p.set a (pa ++ s.f2)) g) := ⟨(STA.out.setP a (pa ++ s.f2)).below (below_drew1 (Below.refl _ _))⟩
        have BX : Aside0 ((((wr.alloc (.cells #[.int .i64 s.f0, .int .i64 s.f1, .string s.f2] 55)).setCell ⟨gP, a, none⟩ (.string (pa ++ s.f2))).drew).heap[bx]? = some (.cells #[.int .i64 s.f0, .int .i64 s.f1, .string s.f2] 55 (0, 0))) := ⟨blk_drew ((Below.heap_setCell _ ⟨gP, a, none⟩ _ bx hne).trans BX0)⟩
        rw [hbx]
        clear hbx BX0 cp fp cs2 STA
        generalize (((wr.alloc (.cells #[.int .i64 s.f0, .int .i64 s.f1, .string s.f2] 55)).setCell ⟨gP, a, none⟩ (.string (pa ++ s.f2))).drew) = wb at STB BX ⊢
        have cn : wb.cell? ⟨bx, 1, none⟩ = some (.int .i64 s.f1) := (blk_cell BX.out 1).trans rfl
        have HA2 : Aside0 (a + s.f1.toNat ≤ 512) := ⟨hc1⟩
        have HLG : Aside0 (g.length = 512) := ⟨ST.out.lg⟩
        clear hx0 hx1 hx2 hc1 hc2 a1 a2 hne
        go_wp2
        go_loopg [8, 37] s.f1.toNat (fun kq v8 v37 w' => ∃ (j c : Nat), v8 = .int .i64 c ∧ v37 = .int .i64 j ∧ Aside0 (c = a + j) ∧ Aside0 (j ≤ s.f1.toNat) ∧ Aside0 (kq = s.f1.toNat - j) ∧ Aside0 (OfSt w w' w.heap.size gP gG (p.set a (pa ++ s.f2)) (fillG g a j (s.f0 == 3))) ∧ Aside0 (w'.heap[bx]? = some (.cells #[.int .i64 s.f0, .int .i64 s.f1, .string s.f2] 55 (0, 0))))
        case atStart => exact ⟨0, a, rfl, rfl, ⟨rfl⟩, ⟨Nat.zero_le _⟩, ⟨rfl⟩, ⟨by rw [fillG_zero]; exact STB.out⟩, BX⟩
        case round =>
          clear STB BX cn ST
          obtain ⟨j, c, rfl, rfl, HC, HJ, HKJ, ST, BX⟩ := hrel
          by_cases hj : j < s.f1.toNat
          · have hc5 : c < 512 := by have := HC.out; have := HA2.out; omega
            have hc5i : (c : Int) < 512 := by omega
            have t1 : decide ((j : Int) < s.f1) = true := decide_eq_true (by omega)
            have cn : wr.cell? ⟨bx, 0, none⟩ = some (.int .i64 s.f0) := (blk_cell BX.out 0).trans rfl
            have cg := ST.out.cellG c hc5
            have fg := blk_frozen ST.out.g c
            have jm : (j : Int) < 9223372036854775807 := by have := HA2.out; omega
            have ST2 : Aside0 (OfSt w (wr.setCell ⟨gG, c, none⟩ (.bool (s.f0 == 3))) w.heap.size gP gG (p.set a (pa ++ s.f2)) (fillG g a (j + 1) (s.f0 == 3))) := ⟨by
              have h2 := ST.out.setG c (s.f0 == 3)
              rw [HC.out, fillG_step g a j _ (by have := HLG.out; have := HA2.out; omega), ← HC.out] at h2
              exact h2⟩
            have BX2 : Aside0 ((wr.setCell ⟨gG, c, none⟩ (.bool (s.f0 == 3))).heap[bx]? = some (.cells #[.int .i64 s.f0, .int .i64 s.f1, .string s.f2] 55 (0, 0))) := ⟨(Below.heap_setCell _ ⟨gG, c, none⟩ _ bx hneG.out).trans BX.out⟩
            generalize (fillG g a j (s.f0 == 3)).getD c false = og at cg
            go_wp2
            go_roundg (s.f1.toNat - (j + 1))
            case measure => have := HKJ.out; omega
            case rel => exact ⟨j + 1, c + 1, by go_num, by go_num, ⟨by have := HC.out; omega⟩, ⟨by omega⟩, ⟨rfl⟩, ST2, BX2⟩
          · have t1 : decide ((j : Int) < s.f1) = false := decide_eq_false (by omega)
            have hje : j = s.f1.toNat := by have := HJ.out; omega
            have HC' : Aside0 (c = a + s.f1.toNat) := ⟨by rw [← hje]; exact HC.out⟩
            have STF : Aside0 (OfSt w wr w.heap.size gP gG (p.set a (pa ++ s.f2)) (fillG g a s.f1.toNat (s.f0 == 3))) := ⟨by rw [← hje]; exact ST.out⟩
            have im := HMI.out
            clear hje hj
            go_wp2
            go_roundg (l0.length - (i + 1))
            case measure => have := HK.out; omega
            case rel => exact ⟨i + 1, c, _, _, rfl, by go_num, ⟨by omega⟩, ⟨rfl⟩, ⟨by have := HC'.out; have := HA2.out; omega⟩, STF, ⟨by have := HNX.out; rw [HPA.out] at this; rw [HC'.out]; exact this⟩⟩
      · cases h
    · have hl : l0.length ≤ i := by omega
      have h := H.out
      rw [List.drop_eq_nil_of_le hl] at h
      obtain ⟨rfl, rfl⟩ : p = put ∧ g = gone := by simpa [gapsL] using h
      have i1 : decide (i < l0.length) = false := decide_eq_false hi
      have n1 : n ≤ 512 := HN.out
      have n2 : (n : Int) ≤ 512 := by omega
      have n3 : (n : Int) + 1 ≤ 513 := by omega
      have cr0 : wr.cell? ⟨w.heap.size, 0, none⟩ = some (.slice none 0 0) := (blk_cell ST.out.r 0).trans rfl
      have cr1 : wr.cell? ⟨w.heap.size, 1, none⟩ = some (.slice none 0 0) := (blk_cell ST.out.r 1).trans rfl
      have fr0 := blk_frozen ST.out.r 0
      have fr1 := blk_frozen ST.out.r 1
      have sP : ∀ W, (Instr.sliceAt 66 (.pointer (some ⟨gP, 0, none⟩)) none (some (.int .i64 ((n : Int) + 1))) none).run Tryd.prog W = .ok (.slice (some ⟨gP, 0, none⟩) (n + 1) 513) W := fun W => by
        have := slice_arrP W gP (n + 1) (by omega)
        rwa [show ((n + 1 : Nat) : Int) = (n : Int) + 1 by omega] at this
      have sG := fun W => slice_arrG W gG n (by omega)
      clear h hl hi
      go_wp2
      go_region
      go_wp2
      refine bodyPost_ret (results_ct rfl _ _ w.heap.size 32 #[.slice (some ⟨gP, 0, none⟩) (n + 1) 513, .slice (some ⟨gG, 0, none⟩) n 512] (0, 0) _ rfl (by refine blk_drew ?_; refine blk_put (cs := #[.slice (some ⟨gP, 0, none⟩) (n + 1) 513, .slice none 0 0]) ?_ 1 _ rfl; exact blk_put (cs := #[.slice none 0 0, .slice none 0 0]) ST.out.r 0 _ rfl) Tryd.underlying32 rfl (by kernel_rfl)) rfl ?_
      have hne1 := ST.out.rp
      have hne2 := ST.out.rg
      refine ⟨_, _, rfl, of_vP (blk_drew ((Below.heap_setCell _ ⟨w.heap.size, 1, none⟩ _ gP hne1.symm).trans ((Below.heap_setCell _ ⟨w.heap.size, 0, none⟩ _ gP hne1.symm).trans ST.out.p))) ST.out.lp ST.out.hP (n + 1) (by omega),
        of_vG (blk_drew ((Below.heap_setCell _ ⟨w.heap.size, 1, none⟩ _ gG hne2.symm).trans ((Below.heap_setCell _ ⟨w.heap.size, 0, none⟩ _ gG hne2.symm).trans ST.out.g))) ST.out.lg ST.out.hG n (by omega), ?_⟩
      exact below_drew1 (below_set (below_set ST.out.b (Nat.le_refl _)) (Nat.le_refl _))
set_option maxHeartbeats 40000000 in
set_option maxRecDepth 100000 in
theorem gaps_Of.calls (k : Nat) (A0 : Option Addr) (c0 : Nat) (l0 : List S55) (r1 : List ByteArray) (r2 : List Bool) (r3 : Int) (w : World) (hG : Glob w) (hr0 : Kd.C k55 w A0 l0.length l0) (hc0 : l0.length ≤ c0) (h : gaps_Of.f k l0 = some (r1, r2, r3)) :
  Calls Tryd.prog 13 #[.slice A0 l0.length c0] w fun e w' => ∃ v0_ v1_ : Value, e = .returned (.tuple #[.agg #[v0_, v1_], .int .i64 r3]) ∧ Kd.V Kd.string 9 w' w.heap.size (fun k_ => w.heap.size ≤ k_) v0_ r1 ∧ Kd.V Kd.bool 4 w' w.heap.size (fun k_ => w.heap.size ≤ k_) v1_ r2 ∧ Below w.heap.size w w' := by
 unfold gaps_Of.f at h
 obtain ⟨e, h1, h⟩ := Option.bind_eq_some_iff.1 h
 split at h
 ·next he =>
  subst he
  obtain ⟨n, h2, h⟩ := Option.bind_eq_some_iff.1 h
  split at h
  ·next hn =>
   obtain ⟨rfl, rfl, rfl⟩ : [] = r1 ∧ [] = r2 ∧ 4 = r3 := by simpa using h
   have HG := Aside0.mk hG;have HR0 := Aside0.mk hr0;have HC0 := Aside0.mk hc0;have H1 := Aside0.mk h1;have H2 := Aside0.mk h2;have d1 : decide ((512 : Int) < n) = true := decide_eq_true hn
   clear hG hr0 hc0 h1 h2 h hn;go_enter Tryd.func13, Tryd.ntmps13
   go_wp2_with (first | (go_at_call 39; (with_reducible refine (op_May.calls k _ _ l0 0 _ (HG.out.below (below_alloc (Below.refl _ _) _)) (Kd.C_alloc HR0.out _) HC0.out H1.out).mono ?_); rintro e w1 ⟨rfl, hb⟩; have HB1 := Aside0.mk hb; clear hb) | (go_at_call 25; (with_reducible refine (op_In.calls k _ _ l0 n _ (HG.out.below (below_step (below_alloc (Below.refl _ _) _) HB1.out)) (Kd.C_below (Kd.C_alloc HR0.out _) HB1.out) HC0.out H2.out).mono ?_); rintro e w2 ⟨rfl, hb⟩; have HB2 := Aside0.mk hb; have bk := blk_below (blk_below (blk_new w (.cells #[.slice none 0 0, .slice none 0 0] 32)) HB1.out) hb; have cr0 : w2.cell? ⟨w.heap.size, 0, none⟩ = some (.slice none 0 0) := (blk_cell bk 0).trans rfl; have cr1 : w2.cell? ⟨w.heap.size, 1, none⟩ = some (.slice none 0 0) := (blk_cell bk 1).trans rfl; have fr0 := blk_frozen bk 0; have fr1 := blk_frozen bk 1; have BK := Aside0.mk bk; clear hb bk))
   refine bodyPost_ret (results_ct rfl _ _ w.heap.size 32 #[.slice none 0 0, .slice none 0 0] (0, 0) _ rfl (by refine blk_put (cs := #[.slice none 0 0, .slice none 0 0]) ?_ 1 _ rfl; exact blk_put (cs := #[.slice none 0 0, .slice none 0 0]) BK.out 0 _ rfl) Tryd.underlying32 rfl (by kernel_rfl)) rfl ?_
   exact ⟨_, _, rfl, Kd.V_nil _ _ _ _ _, Kd.V_nil _ _ _ _ _, below_set (below_set (below_step (below_step (below_alloc (Below.refl _ _) _) HB1.out) HB2.out) (Nat.le_refl _)) (Nat.le_refl _)⟩
  ·next hn =>
   split at h
   ·next h0 =>
    obtain ⟨⟨p, g⟩, h3, h4⟩ := Option.bind_eq_some_iff.1 h
    obtain ⟨m, rfl⟩ := Int.eq_ofNat_of_zero_le h0
    obtain ⟨rfl, rfl, rfl⟩ : p.take (m + 1) = r1 ∧ g.take m = r2 ∧ 0 = r3 := by simpa using h4
    exact gaps_Of_loop k A0 c0 l0 m p g w hG hr0 hc0 h1 h2 (by omega) h3
   ·cases h
 ·next he =>
  obtain ⟨rfl, rfl, rfl⟩ : [] = r1 ∧ [] = r2 ∧ e = r3 := by simpa using h
  have HG := Aside0.mk hG;have HR0 := Aside0.mk hr0;have HC0 := Aside0.mk hc0;have H1 := Aside0.mk h1;have d1 : (e != 0) = true := by simp [he]
  clear hG hr0 hc0 h1 h he;go_enter Tryd.func13, Tryd.ntmps13
  go_wp2_with (go_at_call 39; (with_reducible refine (op_May.calls k _ _ l0 e _ (HG.out.below (below_alloc (Below.refl _ _) _)) (Kd.C_alloc HR0.out _) HC0.out H1.out).mono ?_); rintro e2 w1 ⟨rfl, hb⟩; have bk := blk_below (blk_new w (.cells #[.slice none 0 0, .slice none 0 0] 32)) hb; have cr0 : w1.cell? ⟨w.heap.size, 0, none⟩ = some (.slice none 0 0) := (blk_cell bk 0).trans rfl; have cr1 : w1.cell? ⟨w.heap.size, 1, none⟩ = some (.slice none 0 0) := (blk_cell bk 1).trans rfl; have fr0 := blk_frozen bk 0; have fr1 := blk_frozen bk 1; have BK := Aside0.mk bk; have HB1 := Aside0.mk hb; clear hb bk)
  refine bodyPost_ret (results_ct rfl _ _ w.heap.size 32 #[.slice none 0 0, .slice none 0 0] (0, 0) _ rfl (by refine blk_put (cs := #[.slice none 0 0, .slice none 0 0]) ?_ 1 _ rfl; exact blk_put (cs := #[.slice none 0 0, .slice none 0 0]) BK.out 0 _ rfl) Tryd.underlying32 rfl (by kernel_rfl)) rfl ?_
  exact ⟨_, _, rfl, Kd.V_nil _ _ _ _ _, Kd.V_nil _ _ _ _ _, below_set (below_set (below_step (below_alloc (Below.refl _ _) _) HB1.out) (Nat.le_refl _)) (Nat.le_refl _)⟩
end Go.Proofs.YtekjfodfedpioaaDoor.F
end
section
namespace Go.Proofs.YtekjfodfedpioaaDoor.F
open Go.RowKit Go.Proofs.YtekjfodfedpioaaDoorW.PrintWords Go.Proofs.YtekjfodfedpioaaDoorW.PrintLast Go.Proofs.YtekjfodfedpioaaDoorW.PrintMore
set_option linter.unusedVariables false
set_option linter.unusedSimpArgs false
open Go.Shelf
attribute [local go_sem] Oper.semAt_some max2_int min2_int max_two min_two
def inS (s : S55) : Int := (span_In.f s.f0 s.f1 s.f2).getD 0
def outS (s : S55) : Int := (span_Out.f s.f0 s.f1 s.f2).getD 0
def stepsOk (l : List S55) : Bool := l.all fun s => (span_In.f s.f0 s.f1 s.f2).isSome && (span_Out.f s.f0 s.f1 s.f2).isSome
structure St where
  s : S55
  i : Int
  o : Int
  h : (span_Out.f s.f0 s.f1 s.f2).isSome = true
theorem zero_out : (span_Out.f 0 0 ⟨#[]⟩).isSome = true := by simp [span_Out.f, span_of.f]
def stepsL : List S55 → Int → Int → List St
  | [], i, o => [⟨⟨0, 0, ⟨#[]⟩⟩, i, o, zero_out⟩]
  | s :: r, i, o => if h : (span_Out.f s.f0 s.f1 s.f2).isSome = true then ⟨s, i, o, h⟩ :: stepsL r (wrap64 (i + inS s)) (wrap64 (o + outS s)) else []
def encSt (x : St) : Value := .agg #[.int .i64 x.s.f0, .int .i64 x.s.f1, .string x.s.f2, .int .i64 x.i, .int .i64 x.o]
structure KpS (n m : Nat) (W W' : World) : Prop where
  b : Below n W W'
  c : ∀ (k : Nat) (o : Obj), m ≤ k → W.heap[k]? = some o → o.isCells = true → W'.heap[k]? = some o
theorem KpS.refl (n m : Nat) (W : World) : KpS n m W W := ⟨Below.refl _ _, fun _ _ _ h _ => h⟩
theorem KpS.trans {n m : Nat} {A B C : World} (h : KpS n m A B) (k : KpS n m B C) : KpS n m A C := ⟨h.b.trans k.b, fun i o hm hi ho => k.c i o hm (h.c i o hm hi ho) ho⟩
theorem KpS.put {n m : Nat} {w : World} (hn : n ≤ w.heap.size) (W : World) (l : Nat) (o o' : Obj) (hl : w.heap.size ≤ l) (h : W.heap[l]? = some o) (hc : o.isCells = false) (hw : o.isWalk = false) : KpS n m W (W.putObj l o') :=
  ⟨belowK_b hn W l o o' hl h hc hw, fun k p _ hk hp => by
    by_cases e : k = l
    · subst e; rw [h] at hk; cases hk; rw [hc] at hp; cases hp
    · exact (World.putObj_heap_other e).trans hk⟩
theorem KpS.set {n m : Nat} (W : World) (b : Nat) (v : Value) (hn : n ≤ b) (hm : b < m) : KpS n m W (W.setCell ⟨b, 0, none⟩ v) :=
  ⟨(Below.refl _ W).setCell (p := ⟨b, 0, none⟩) hn v, fun k o hk h _ => (Below.heap_setCell W ⟨b, 0, none⟩ v k (by show k ≠ b; omega)).trans h⟩
theorem KpS.more {n m : Nat} {W W' : World} (h : Below W.heap.size W W') (hn : n ≤ W.heap.size) : KpS n m W W' :=
  ⟨h.mono hn, fun k o _ hk _ => (h.block k (Array.getElem?_eq_some_iff.1 hk).1).trans hk⟩
theorem grown_of_below {W W' : World} (h : Below W.heap.size W W') : W.grownBy W' none := ⟨h.os, h.tape, h.output, h.size, fun k hk _ => h.block k hk⟩
theorem abides_more {β : Type} {B : Nat} {J : β → World → Prop} (hJ : AbidesFrom B J) {s : β} {W W' : World} (h : J s W) (hb : Below W.heap.size W W') : J s W' := hJ s W W' none h (grown_of_below hb) (fun r e => by cases e)
theorem some_in {s : S55} (h : (span_In.f s.f0 s.f1 s.f2).isSome = true) : span_In.f s.f0 s.f1 s.f2 = some (inS s) := by
  unfold inS
  cases hh : span_In.f s.f0 s.f1 s.f2 with
  | none => rw [hh] at h; cases h
  | some v => rfl
theorem some_out {s : S55} (h : (span_Out.f s.f0 s.f1 s.f2).isSome = true) : span_Out.f s.f0 s.f1 s.f2 = some (outS s) := by
  unfold outS
  cases hh : span_Out.f s.f0 s.f1 s.f2 with
  | none => rw [hh] at h; cases h
  | some v => rfl
theorem stepsOk_at {l pre r : List S55} {s : S55} (h : stepsOk l = true) (e : l = pre ++ s :: r) : span_In.f s.f0 s.f1 s.f2 = some (inS s) ∧ span_Out.f s.f0 s.f1 s.f2 = some (outS s) := by
  have := List.all_eq_true.1 h s (by rw [e]; simp)
  rw [Bool.and_eq_true] at this
  exact ⟨some_in this.1, some_out this.2⟩
set_option maxRecDepth 100000 in
set_option maxHeartbeats 4000000 in
theorem steps1_in (n l Bs n₀ m : Nat) (hn : 1 ≤ n) (A0 : Option Addr) (c0 : Nat) (l0 : List S55) (w : World) (hn₀ : n₀ = w.heap.size) (hG : Glob w) (hr0 : Kd.C k55 w A0 l0.length l0) (hok : stepsOk l0 = true) (J Jx : List St → World → Prop)
    (hY : ∀ pre x W, J pre W → pre.length < l0.length + 1 → YieldAt Fence.wide (n - 1) Tryd.prog l #[encSt x] W fun e W' =>
      (e = .returned (.bool true) ∧ J (pre ++ [x]) W' ∧ KpS n₀ m W W') ∨ (e = .returned (.bool false) ∧ Jx (pre ++ [x]) W'))
    (W : World) (hJ : AbidesFrom W.heap.size J) (hm : m ≤ W.heap.size)
    (hB : Below n₀ w W) (hBs : W.cell? ⟨Bs, 0, none⟩ = some (.slice A0 l0.length c0)) (h0 : J [] W) :
    CallsIn Fence.wide n Tryd.prog 72 #[.func (.yield l) #[] #[], .pointer (some ⟨Bs, 0, none⟩)] W fun e W' => (∃ v, e = .returned v) ∧
      ((∃ ys, ys = stepsL l0 0 0 ∧ J ys W') ∨ (∃ pre, pre <+: stepsL l0 0 0 ∧ Jx pre W')) := by
  subst hn₀
  have HG := Aside0.mk hG
  have HR0 := Aside0.mk hr0
  have HY := Aside0.mk hY
  have HB := Aside0.mk hB
  have HJ := Aside0.mk hJ
  have H0 := Aside0.mk h0
  have HOK := Aside0.mk hok
  have HM : Aside0 (l0.length ≤ 9223372036854775807) := ⟨hr0.2.1⟩
  have HMM := Aside0.mk hm
  clear hG hr0 hY hB hJ h0 hok hm
  refine callsIn_of_wp Tryd.func72 rfl trivial ?_ rfl
  simp only [Tryd.ntmps72, List.size_toArray, List.length_cons, List.length_nil, Nat.reduceAdd, Nat.reduceSub, Array.replicate_succ, Array.replicate_zero, List.push_toArray, List.append_toArray, List.nil_append, List.cons_append]
  gi_wp2
  gi_loopw [3, 4, 9] (fun v3 v4 v9 wr => ∃ (done rest : List S55) (i o : Int), v3 = .int .i64 i ∧ v4 = .int .i64 o ∧ v9 = .int .i64 (done.length : Int) ∧ Aside0 (l0 = done ++ rest) ∧
    Aside0 (∃ pre, stepsL l0 0 0 = pre ++ stepsL rest i o ∧ pre.length = done.length ∧ J pre wr) ∧ Aside0 (Below w.heap.size w wr) ∧ Aside0 (W.heap.size ≤ wr.heap.size)) (fun _ _ v9 _ => l0.length - (intOf v9).toNat)
  case atStart => exact ⟨[], l0, 0, 0, rfl, rfl, rfl, ⟨rfl⟩, ⟨[], rfl, rfl, H0.out⟩, HB, ⟨Nat.le_refl _⟩⟩
  case round =>
    obtain ⟨done, rest, i, o, rfl, rfl, rfl, HL, HP, HBR, HSZ⟩ := hrel
    clear hBs
    have hdl : Aside0 (l0.length = done.length + rest.length) := ⟨by have := HL.out; rw [this]; simp⟩
    have HMR : Aside0 (m ≤ wr.heap.size) := ⟨by have := HMM.out; have := HSZ.out; omega⟩
    cases rest with
    | nil =>
      have hlt : decide ((done.length : Int) < (l0.length : Int)) = false := decide_eq_false (by have := hdl.out; simp at this; omega)
      have hlt2 : decide (done.length < l0.length) = false := decide_eq_false (by have := hdl.out; simp at this; omega)
      obtain ⟨pre, e1, e2, hJs⟩ := HP.out
      obtain ⟨fn, tmps, assign, body, hy, hR⟩ := HY.out pre ⟨⟨0, 0, ⟨#[]⟩⟩, i, o, zero_out⟩ wr hJs (by have := hdl.out; simp at this; omega)
      have E1 := Aside0.mk e1
      have RR := Aside0.mk hR
      clear e1 e2 hJs hR
      dsimp only [encSt] at hy
      gi_wp2
      refine RR.out.mono ?_
      rintro e W3 (⟨rfl, hJ3, hk3⟩ | ⟨rfl, hJx3⟩)
      · gi_wp2
        go_end0
        exact ⟨⟨_, rfl⟩, .inl ⟨_, E1.out.symm, hJ3⟩⟩
      · gi_wp2
        go_end0
        exact ⟨⟨_, rfl⟩, .inr ⟨_, ⟨[], by rw [List.append_nil]; exact E1.out.symm⟩, hJx3⟩⟩
    | cons s r =>
      have hlt : (done.length : Int) < (l0.length : Int) := by have := hdl.out; simp at this; omega
      have hlt1 : done.length < l0.length := by omega
      have hmx : (l0.length : Int) ≤ 9223372036854775807 := by have := HM.out; omega
      obtain ⟨ad, e, hx0, hx1, hx2⟩ := at_T55 (Kd.C_below HR0.out HBR.out) (done.length : Int) (by omega) hlt
      cases e
      have hrd : rd_T55 l0 (done.length : Int) = s := by
        unfold rd_T55
        rw [Int.toNat_natCast, List.getD_eq_getElem?_getD, HL.out]
        simp
      rw [hrd, Int.toNat_natCast] at hx0 hx1 hx2
      obtain ⟨pre, e1, e2, hJs⟩ := HP.out
      have hok2 := stepsOk_at HOK.out HL.out
      have hso : (span_Out.f s.f0 s.f1 s.f2).isSome = true := by rw [hok2.2]; rfl
      have HSI := Aside0.mk hok2.1
      have HSO := Aside0.mk hok2.2
      have hbl := below_alloc (Below.refl _ wr) (.cells #[.int .i64 s.f0, .int .i64 s.f1, .string s.f2] 55)
      obtain ⟨fn, tmps, assign, body, hy, hR⟩ := HY.out pre ⟨s, i, o, hso⟩ (wr.alloc (.cells #[.int .i64 s.f0, .int .i64 s.f1, .string s.f2] 55)) (abides_more HJ.out hJs hbl) (by have := hdl.out; simp at this; omega)
      have E1 := Aside0.mk e1
      have E2 := Aside0.mk e2
      have RR := Aside0.mk hR
      have HB2 := Aside0.mk (below_step HBR.out hbl)
      have BX : Aside0 ((wr.alloc (.cells #[.int .i64 s.f0, .int .i64 s.f1, .string s.f2] 55)).heap[wr.heap.size]? = some (.cells #[.int .i64 s.f0, .int .i64 s.f1, .string s.f2] 55 (0, 0))) := ⟨blk_new wr _⟩
      have HSO2 := Aside0.mk hso
      clear hrd e1 e2 hJs hok2 hR hbl
      dsimp only [encSt] at hy
      gi_wp2
      refine RR.out.mono ?_
      rintro e W3 (⟨rfl, hJ3, hk3⟩ | ⟨rfl, hJx3⟩)
      · have BX3 := Aside0.mk (hk3.c _ _ HMR.out BX.out rfl)
        have HB3 := Aside0.mk (HB2.out.trans hk3.b)
        have J3 := Aside0.mk hJ3
        have SZ3 := Aside0.mk (Nat.le_trans HSZ.out (Nat.le_trans (by simp) hk3.b.size))
        clear hJ3 hk3
        have cx0 := (blk_cell BX3.out 0).trans (show _ = some (Value.int .i64 s.f0) from rfl)
        have cx1 := (blk_cell BX3.out 1).trans (show _ = some (Value.int .i64 s.f1) from rfl)
        have cx2 := (blk_cell BX3.out 2).trans (show _ = some (Value.string s.f2) from rfl)
        gi_wp2_with (first | (refine ⟨trivial, ?_⟩; gi_at_call 56; (with_reducible refine (callsIn_wide.2 (span_In.calls _ _ _ _ _ (HG.out.below HB3.out) HSI.out)).mono ?_); rintro e W4 ⟨rfl, hb⟩; have HB4 := Aside0.mk hb; clear hb cx0 cx1 cx2; have cx0 := (blk_cell (blk_below BX3.out HB4.out) 0).trans (show _ = some (Value.int .i64 s.f0) from rfl); have cx1 := (blk_cell (blk_below BX3.out HB4.out) 1).trans (show _ = some (Value.int .i64 s.f1) from rfl); have cx2 := (blk_cell (blk_below BX3.out HB4.out) 2).trans (show _ = some (Value.string s.f2) from rfl)) | (refine ⟨trivial, ?_⟩; gi_at_call 38; (with_reducible refine (callsIn_wide.2 (span_Out.calls _ _ _ _ _ (HG.out.below (below_step HB3.out HB4.out)) HSO.out)).mono ?_); rintro e W5 ⟨rfl, hb⟩; have HB5 := Aside0.mk hb; clear hb))
        go_roundw
        case rel =>
          refine ⟨done ++ [s], r, wrap64 (i + inS s), wrap64 (o + outS s), rfl, rfl, by rw [List.length_append, List.length_singleton]; go_num, ⟨by rw [HL.out]; simp⟩, ⟨pre ++ [⟨s, i, o, hso⟩], by rw [E1.out, stepsL, dif_pos hso]; simp, by rw [List.length_append, List.length_append, E2.out]; rfl, abides_more HJ.out (abides_more HJ.out J3.out HB4.out) HB5.out⟩, ⟨below_step (below_step HB3.out HB4.out) HB5.out⟩, ⟨?_⟩⟩
          exact Nat.le_trans SZ3.out (Nat.le_trans HB4.out.size HB5.out.size)
        case measure => simp [intOf]; omega
      · gi_wp2
        refine bodyPost_ret (results_none rfl _ _ _) rfl ?_
        exact ⟨⟨_, rfl⟩, .inr ⟨_, ⟨stepsL r (wrap64 (i + inS s)) (wrap64 (o + outS s)), by rw [E1.out, stepsL.eq_2, dif_pos hso]; simp⟩, hJx3⟩⟩
def whereS (gap : Int) : List St → Int → Int
  | [], a => a
  | x :: r, a => if x.i > gap then a else whereS gap r (if x.s.f0 = 1 then wrap64 (x.o + mn x.s.f1 (wrap64 (gap - x.i))) else if x.s.f0 = 2 then wrap64 (x.o + outS x.s) else x.o)
def leastS (gap : Int) : List St → Int
  | [] => 0
  | x :: r => if wrap64 (x.o + outS x.s) < gap then leastS gap r else if x.s.f0 = 1 then wrap64 (x.i + mx (wrap64 (gap - x.o)) 0) else x.i
def place_Least.f (k : Nat) (l : List S55) (gap : Int) : Option (Int × Int) :=
  if stepsOk l = true then (op_May.f k l).bind fun e => if e = 0 then (if gap < 0 then some (0, 6) else (op_Out.f k l).bind fun n => if gap > n then some (0, 6) else some (leastS gap (stepsL l 0 0), 0)) else some (0, e) else none
theorem place_Least.mono (l : List S55) (gap : Int) (k : Nat) : LeO (place_Least.f k l gap) (place_Least.f (k + 1) l gap) := by
  unfold place_Least.f
  split
  · refine LeO.bind (op_May.mono _ _) (fun e => ?_)
    split
    · split
      · exact LeO.refl _
      · exact LeO.bind (op_Out.mono _ _) (fun n => LeO.refl _)
    · exact LeO.refl _
  · exact LeO.refl _
theorem steps.calls (A0 : Option Addr) (n c0 : Nat) (w : World) :
  Calls Tryd.prog 46 #[.slice A0 n c0] w fun e w' => e = .returned (.func (.func 72) #[] #[.pointer (some ⟨w.heap.size, 0, none⟩)]) ∧ w' = w.alloc (.cells #[.slice A0 n c0] 22) := by
 refine (callsIn_wide (n := 0)).1 ?_
 refine callsIn_of_wp Tryd.func46 rfl trivial ?_ rfl
 simp only [Tryd.ntmps46, List.size_toArray, List.length_cons, List.length_nil, Nat.reduceAdd, Nat.reduceSub, Array.replicate_succ, Array.replicate_zero, List.push_toArray, List.append_toArray, List.nil_append, List.cons_append]
 gi_wp2
 go_ret
 exact ⟨rfl, rfl⟩
theorem keepsFrom_below {B : Nat} {W W' : World} (h : Below W.heap.size W W') : KeepsFrom B W W' := ⟨h.size, fun k o _ hk _ => (h.block k (Array.getElem?_eq_some_iff.1 hk).1).trans hk⟩
theorem steps_stops (n : Nat) (hn : 1 ≤ n) (Bs m : Nat) (A0 : Option Addr) (c0 : Nat) (l0 : List S55) (w W0 : World) (hG : Glob w) (hr0 : Kd.C k55 w A0 l0.length l0) (hok : stepsOk l0 = true) (hB0 : Below w.heap.size w W0) (hm : m ≤ W0.heap.size) (hbs : Bs < W0.heap.size)
  (hBs : W0.cell? ⟨Bs, 0, none⟩ = some (.slice A0 l0.length c0)) :
  SeqStopsK Fence.wide n Tryd.prog 72 #[.pointer (some ⟨Bs, 0, none⟩)] (fun x : St => #[encSt x]) (KpS w.heap.size m) (fun ys => ys = stepsL l0 0 0) (fun pre => pre <+: stepsL l0 0 0) (l0.length + 1) W0 := fun l J Jx W hW hJ _ hY h0 =>
 steps1_in n l Bs w.heap.size m hn A0 c0 l0 w rfl hG hr0 hok J Jx hY W hJ (Nat.le_trans hm hW.size) (below_step hB0 hW) ((hW.cell (p := ⟨Bs, 0, none⟩) hbs).trans hBs) h0
def NoPanic (Q : Exit → Act → World → Prop) : Exit → Act → World → Prop
 | .panic _, _, _ => False
 | .normal, a, w => Q .normal a w
 | .ret, a, w => Q .ret a w
 | .exit i, a, w => Q (.exit i) a w
 | .goto t, a, w => Q (.goto t) a w
 | .outgrown, a, w => Q .outgrown a w
theorem wp_quiet {F : Fence} {n : Nat} {c : Code} {Q : Exit → Act → World → Prop} {a : Act} {w : World} (h : c.wpIn F n Tryd.prog (NoPanic Q) a w) : c.wpIn F n Tryd.prog Q a w :=
 wpIn_mono h (fun e a w hq => by cases e <;> first | exact hq | exact hq.elim)
theorem box_below {W W' : World} {B : Nat} {t : TypeId} {v : Value} (h : Boxed W B t v) (hb : Below W.heap.size W W') : Boxed W' B t v := blk_below h hb
def Boxed5 (W : World) (B : Nat) (x : St) : Prop := W.heap[B]? = some (.cells #[.int .i64 x.s.f0, .int .i64 x.s.f1, .string x.s.f2, .int .i64 x.i, .int .i64 x.o] 73 (0, 0))
theorem boxed5_own {β : Type} (B : Nat) (x : St) : Own (fun (_ : β) W => Boxed5 W B x) := fun s X Y row hs hg hrow =>
 (hg.block B (Array.getElem?_eq_some_iff.1 hs).1 (fun e' => by obtain ⟨o, ho, hc⟩ := hrow B e'.symm; rw [show X.heap[B]? = _ from hs] at ho; cases ho; cases hc)).trans hs
def WhI (w : World) (bg ba : Nat) (gap : Int) (pre : List St) (W : World) : Prop :=
 ((Boxed W bg 3 (.int .i64 gap) ∧ Boxed W ba 3 (.int .i64 (whereS gap pre 0))) ∧ (∀ y ∈ pre, y.i ≤ gap)) ∧ Below w.heap.size w W
def WhX (w : World) (ba : Nat) (gap : Int) (c : Code) (pre : List St) (W : World) : Prop :=
 (c = .exit 0 ∧ ∃ ini x, pre = ini ++ [x] ∧ gap < x.i ∧ (∀ y ∈ ini, y.i ≤ gap) ∧ Boxed W ba 3 (.int .i64 (whereS gap ini 0))) ∧ Below w.heap.size w W
theorem WhI.own (w : World) (bg ba : Nat) (gap : Int) {B : Nat} (hB : w.heap.size ≤ B) : OwnFrom B (WhI w bg ba gap) :=
 OwnFrom.and (OwnFrom.and (OwnFrom.and (Own.from (boxed_own _ _ (fun _ => .int .i64 gap)) _) (Own.from (boxed_own _ _ (fun pre => .int .i64 (whereS gap pre 0))) _)) (ownFrom_pure _ _)) (ownFrom_below (Nat.le_refl _) hB)
theorem WhX.own (w : World) (ba : Nat) (gap : Int) (c : Code) {B : Nat} (hB : w.heap.size ≤ B) : OwnFrom B (WhX w ba gap c) := fun pre X Y row hs hg hr => by
 obtain ⟨⟨hc, ini, x, e1, e2, e3, b2⟩, hb⟩ := hs
 exact ⟨⟨hc, ini, x, e1, e2, e3, boxed_own ba 3 (fun (_ : Unit) => Value.int .i64 (whereS gap ini 0)) () X Y row b2 hg (fun r e => (hr r e).2)⟩, ownFrom_below (β := Unit) (Nat.le_refl _) hB () X Y row hb hg hr⟩
end Go.Proofs.YtekjfodfedpioaaDoor.F
end
