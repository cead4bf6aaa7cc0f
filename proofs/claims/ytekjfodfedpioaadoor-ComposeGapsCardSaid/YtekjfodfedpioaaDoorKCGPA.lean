import Derived.Test.YtekjfodfedpioaaDoorKCGE
import Derived.Below
import Derived.Deep.Draws
import Derived.Deep.AppendLies
import Derived.Maps.AppendAt
import Derived.OwnWalk
import Derived.Laws.BytesArg
import Derived.Laws.MakeOwn
import Derived.Laws.OwnMore
import Derived.Deep.OwnRows
import Derived.Tactics
import Derived.Lib.ConvBytes
import Derived.Laws.Slices
import Derived.WalkKit
import Derived.KernelRfl
import Derived.RowKit3
import Derived.Deep.LoopGhost
import Derived.Deep.QuietTactic
import Derived.BigQuiet
import Derived.WideLaws
import Derived.Deep.DeepCutAuto
import Derived.Deep.CutBlock
import Derived.Deep.RegionHeld3
import Derived.Laws.Rows
import Derived.Lib.AppendStr
import Derived.ArgAppend
import Derived.Laws.IdiomCopy
import Derived.RowKit
import Derived.OrdersHeld
import Derived.Laws.BitsLemmas
import Derived.Laws.StructEq
import Derived.Test.YtekjfodfedpioaaDoorProg
import Derived.Handy
import Derived.Shelf.Unicode.DecodeSlow
import Derived.Ground.NamesProg
import Derived.Shelf.Unicode.ValidAny
import Derived.Laws.RangeString
import Derived.Laws.RangeAny
import Derived.Lib.RuneCount
import Derived.Laws.IdiomStrings
import Derived.Laws.Cover4
import Derived.Great.BuildSlice
import Derived.RangeFuncNested
import Derived.RangeFuncBound
import Derived.RangeFuncCalls
import Derived.RangeFuncLeaves
import Derived.Shelf.Abstract
import Derived.Shelf.RegionOpen
import Derived.OwnWalkIn
import Derived.TacticsInMore
import Derived.LoopNIn
import Derived.LoopIn
import Derived.Defers
import Derived.ProofKit
import Derived.OpenShut
import Derived.ShutString
import Derived.ChangeOld
import Derived.SizedLaws
import Derived.Lib.ValidLaws
import Derived.Test.YtekjfodfedpioaaDoorRows
import Derived.Lib.LaidU8T
import Derived.Lib.LaidIn
import Derived.LaidLaws
section
namespace Go.Proofs.YtekjfodfedpioaaDoor.F
open Go.RowKit Go.Proofs.YtekjfodfedpioaaDoorW.PrintWords Go.Proofs.YtekjfodfedpioaaDoorW.PrintLast Go.Proofs.YtekjfodfedpioaaDoorW.PrintMore
set_option linter.unusedVariables false
set_option linter.unusedSimpArgs false
def Opens {α : Type} (P : Program) (t : TypeId) (d : Kd α) (V : α → Prop) : Prop :=
  ∀ {H : Type} (enc : TypeId × Value → H) (w : World) (base : Nat) (spare : Nat → Bool) (held : Bool) (fuel : Nat) (cs : List Value) (x : DataW H × List MemPlace),
    DataW.trod enc P w base spare held fuel t cs = some x → ∃ a : α, d.K w a cs ∧ V a
theorem opens_int {P : Program} {t : TypeId} {k : IntKind} (ht : P.underlying t = some (.int k)) : Opens P t (Kd.int k) (fun n => (Lit.int k n).wf = true) := by
  intro H enc w base spare held fuel cs x h
  obtain ⟨n, hc, _, hw⟩ := DataW.trod_int ht h
  exact ⟨n, hc, hw⟩
theorem opens_string {P : Program} {t : TypeId} (ht : P.underlying t = some .string) : Opens P t Kd.string (fun s => s.size ≤ maxLen) := by
  intro H enc w base spare held fuel cs x h
  obtain ⟨s, hc, _, hs⟩ := DataW.trod_string ht h
  exact ⟨s, hc, hs⟩
theorem list_of_each {α : Type} (R : Nat → α → Prop) : ∀ n : Nat, (∀ i, i < n → ∃ x, R i x) → ∃ l : List α, l.length = n ∧ ∀ i x, l[i]? = some x → R i x
  | 0, _ => ⟨[], rfl, fun i x h => by simp at h⟩
  | n + 1, h => by
    obtain ⟨l, hl, hr⟩ := list_of_each R n (fun i hi => h i (by omega))
    obtain ⟨x, hx⟩ := h n (by omega)
    refine ⟨l ++ [x], by simp [hl], fun i y hy => ?_⟩
    rw [List.getElem?_append] at hy
    split at hy
    · exact hr i y hy
    · next hge =>
      have : i = n := by
        have := (List.getElem?_eq_some_iff.1 hy).1
        simp at this
        omega
      subst this
      simp [hl] at hy
      exact hy ▸ hx
theorem cells_each {w : World} {base : Nat} {a : Addr} {n : Nat} {cs : List Value} (h : w.cells? base a n = some cs) : cs.length = n ∧ ∀ i u, cs[i]? = some u → w.cell? (a.add i) = some u := by
  unfold World.cells? at h
  split at h
  · have hl : cs.length = n := by
      have := mapM_some_length h
      simpa using this
    exact ⟨hl, fun i u hu => by
      have hi : i < n := by have := (List.getElem?_eq_some_iff.1 hu).1; omega
      rw [mapM_some_get h i i (by simp [hi])]
      exact hu⟩
  · cases h
theorem add_add (a : Addr) (i j : Nat) : (a.add i).add j = a.add (i + j) := by
  by_cases hi : i = 0
  · subst hi; simp [Addr.add]
  · by_cases hj : j = 0
    · subst hj; simp [Addr.add]
    · simp [Addr.add, hi, hj, Nat.add_assoc]
theorem opens_slice {α : Type} {P : Program} {t e : TypeId} {d : Kd α} {V : α → Prop} (ht : P.underlying t = some (.slice e)) (hc : P.cellsOf e = d.sz) (h : Opens P e d V) :
    Opens P t (Kd.slice e d) (fun l => l.length ≤ maxLen ∧ ∀ x ∈ l, V x) := by
  intro H enc w base spare held fuel cs x hx
  rcases DataW.trod_slice ht hx with ⟨rfl, rfl⟩ | ⟨a, len, cap, elems, rest, n, _, rfl, rfl, hb, hl, hm, hlen, hel, _, _⟩
  · exact ⟨[], ⟨none, 0, rfl, Nat.le_refl _, Kd.C_nil _ _⟩, by simp, by simp⟩
  · have each : ∀ i, i < len → ∃ p : α, (∃ c, c.length = d.sz ∧ d.K w p c ∧ ∀ j u, c[j]? = some u → w.cell? (a.add (i * d.sz + j)) = some u) ∧ V p := by
      intro i hi
      have hi' := hel i hi
      have hs : elems[i]? = some (elems[i]'(by omega)) := List.getElem?_eq_getElem (by omega)
      rw [hs, Option.bind_eq_some_iff] at hi'
      obtain ⟨c, hcs, hy⟩ := hi'
      obtain ⟨p, hp, hv⟩ := h enc w base spare held n c _ hy
      obtain ⟨hcl, hce⟩ := cells_each hcs
      refine ⟨p, ⟨c, hcl.trans hc, hp, fun j u hu => ?_⟩, hv⟩
      have := hce j u hu
      rw [add_add, hc] at this
      exact this
    obtain ⟨l, hll, hlr⟩ := list_of_each _ len each
    have hm' : len ≤ 9223372036854775807 := by unfold maxLen at hm; omega
    refine ⟨l, ⟨some a, cap, by rw [hll], by omega, rfl, by omega, fun _ => ⟨a, rfl, fun j p hj => (hlr j p hj).1⟩⟩, by unfold maxLen at hm ⊢; omega, fun x hx => ?_⟩
    obtain ⟨j, hj⟩ := List.getElem?_of_mem hx
    exact (hlr j x hj).2
end Go.Proofs.YtekjfodfedpioaaDoor.F
end
section
namespace Go.Proofs.YtekjfodfedpioaaDoor.F
open Go.RowKit Go.Proofs.YtekjfodfedpioaaDoorW.PrintWords Go.Proofs.YtekjfodfedpioaaDoorW.PrintLast Go.Proofs.YtekjfodfedpioaaDoorW.PrintMore
attribute [local go_sem] max2_int min2_int max_two min_two max_three min_three max_four min_four cell_setCell_isSome
set_option linter.unusedVariables false
set_option linter.unusedSimpArgs false
def V55 (x : S55) : Prop := ((Lit.int .i64 x.f0).wf = true) ∧ ((Lit.int .i64 x.f1).wf = true) ∧ (x.f2.size ≤ maxLen)
set_option maxRecDepth 10000 in
theorem opens55 : Opens Tryd.prog 55 k55 V55 := by
  intro H enc w base spare held fuel cs x h
  obtain ⟨xs, n, rfl, rfl, hlen, hxs, hf⟩ := DataW.trod_struct Tryd.underlying55 h
  have hl : cs.length = 3 := hlen.trans (by kernel_rfl)
  have hx : xs.length = 3 := hxs
  have h0 := hf 0 _ rfl
  rw [List.getElem?_eq_getElem (show 0 < xs.length by omega)] at h0
  obtain ⟨v0, k0, p0⟩ := (opens_int Tryd.underlying3) enc w base spare held n _ _ h0
  have h1 := hf 1 _ rfl
  rw [List.getElem?_eq_getElem (show 1 < xs.length by omega)] at h1
  obtain ⟨v1, k1, p1⟩ := (opens_int Tryd.underlying3) enc w base spare held n _ _ h1
  have h2 := hf 2 _ rfl
  rw [List.getElem?_eq_getElem (show 2 < xs.length by omega)] at h2
  obtain ⟨v2, k2, p2⟩ := (opens_string Tryd.underlying9) enc w base spare held n _ _ h2
  refine ⟨⟨v0, v1, v2⟩, ?_, ⟨p0, p1, p2⟩⟩
  have e2 : cs = (cs.drop 0).take 1 ++ ((cs.drop 1).take 1 ++ ((cs.drop 2).take 1)) := by
    match cs, hl with
    | [c0, c1, c2], _ => rfl
  rw [e2]
  exact ⟨_, _, rfl, (show ((Kd.int .i64)).K w _ ((cs.drop 0).take 1) from k0), ⟨_, _, rfl, (show ((Kd.int .i64)).K w _ ((cs.drop 1).take 1) from k1), (show (Kd.string).K w _ ((cs.drop 2).take 1) from k2)⟩⟩
end Go.Proofs.YtekjfodfedpioaaDoor.F
end
section
namespace Go.Proofs.YtekjfodfedpioaaDoor.F
open Go.RowKit Go.Proofs.YtekjfodfedpioaaDoorW.PrintWords Go.Proofs.YtekjfodfedpioaaDoorW.PrintLast Go.Proofs.YtekjfodfedpioaaDoorW.PrintMore
set_option linter.unusedVariables false
set_option linter.unusedSimpArgs false
theorem ev_if_pos {α : Type} {c : Prop} [Decidable c] {g f : Nat → Option α} {r : α} (hc : c) (h : Ev g r) : Ev (fun k => if c then g k else f k) r := by
 simp only [if_pos hc]; exact h
theorem ev_if_neg {α : Type} {c : Prop} [Decidable c] {g f : Nat → Option α} {r : α} (hc : ¬ c) (h : Ev f r) : Ev (fun k => if c then g k else f k) r := by
 simp only [if_neg hc]; exact h
theorem ev_some {α β : Type} {g : Option α} {a : α} {f : Nat → α → Option β} {r : β} (hg : g = some a) (h : Ev (fun n => f n a) r) : Ev (fun n => g.bind (f n)) r := by
 subst hg; exact h
theorem w64 {x : Int} (h : -9223372036854775808 ≤ x) (h2 : x ≤ 9223372036854775807) : wrap64 x = x := by unfold wrap64; omega
theorem wf_bounds {x : Int} (h : (Lit.int .i64 x).wf = true) : -9223372036854775808 ≤ x ∧ x ≤ 9223372036854775807 := by
 simp [Lit.wf, IntKind.min, IntKind.max, IntKind.bits, IntKind.signed] at h
 omega
theorem wf_u8 {x : Int} (h : (Lit.int .u8 x).wf = true) : 0 ≤ x ∧ x ≤ 255 := by
 simp [Lit.wf, IntKind.min, IntKind.max, IntKind.bits, IntKind.signed] at h
 omega
end Go.Proofs.YtekjfodfedpioaaDoor.F
end
section
namespace Go.Proofs.YtekjfodfedpioaaDoor.F
open Go.RowKit Go.Proofs.YtekjfodfedpioaaDoorW.PrintWords Go.Proofs.YtekjfodfedpioaaDoorW.PrintLast Go.Proofs.YtekjfodfedpioaaDoorW.PrintMore
set_option linter.unusedVariables false
set_option linter.unusedSimpArgs false
abbrev Sp := S55
deriving instance DecidableEq for S55
instance : DecidableEq Sp := inferInstanceAs (DecidableEq S55)
def emptyS (s : Sp) : Bool := decide (s.f1 = 0) && (s.f2.toList == [])
def joinS (a b : Sp) : Sp := ⟨a.f0, wrap64 (a.f1 + b.f1), a.f2 ++ b.f2⟩
def runs : Sp → List Sp → List Sp
 | c, [] => [c]
 | c, t :: r => if t.f0 = c.f0 then runs (joinS c t) r else c :: runs t r
def mergeS : List Sp → List Sp
 | [] => []
 | s :: r => runs s r
def norm (l : List Sp) : List Sp := mergeS (l.filter (fun s => !emptyS s))
def sizeS (l : List Sp) : Nat := (l.map (fun s => s.f2.size)).sum
theorem empty_is (a b : Int) (c : ByteArray) : normal_empty.f a b c = some (emptyS ⟨a, b, c⟩) := by
 unfold normal_empty.f emptyS
 by_cases h : b = 0 <;> simp [h]
theorem empty_at (s : Sp) : normal_empty.f s.f0 s.f1 s.f2 = some (emptyS s) := empty_is _ _ _
theorem rdS_at {pre r : List Sp} {c : Sp} {i : Int} (h : i = pre.length) : rd_T55 (pre ++ c :: r) i = c := by
 subst h
 unfold rd_T55
 simp [List.getD_eq_getElem?_getD]
theorem setS_at {pre r : List Sp} {c d : Sp} {i : Int} (h : i = pre.length) : (pre ++ c :: r).set i.toNat d = pre ++ d :: r := by
 subst h
 simp [List.set_append]
def idxE (l : List Sp) : Int := match l.findIdx? emptyS with | some i => (i : Int) | none => -1
theorem indexFunc_loop (l : List Sp) (hl : l.length ≤ 4611686018427387904) : ∀ (r pre : List Sp), l = pre ++ r → (∀ s ∈ pre, emptyS s = false) →
  Ev (fun k => api_Span_89.l0 k l (l.length : Int) (pre.length : Int)) (idxE l)
 | [], pre, h, hp => by
  refine Ev.step (f := fun _ => some (-1)) (fun k => ?_) ?_
  ·rw [api_Span_89.l0, if_neg (by subst h; simp)]
  ·have : idxE l = -1 := by
    unfold idxE
    have : l.findIdx? emptyS = none := by
     rw [List.findIdx?_eq_none_iff]; subst h; simpa using hp
    rw [this]
   rw [this]
   exact Ev.now _
 | t :: r, pre, h, hp => by
  have hlt : (pre.length : Int) < (l.length : Int) := by subst h; simp <;> omega
  refine Ev.step (f := fun k => (some (emptyS t)).bind fun t102 => if t102 = true then some (pre.length : Int) else api_Span_89.l0 k l (l.length : Int) (wrap64 (pre.length + 1))) (fun k => ?_) ?_
  ·rw [api_Span_89.l0, if_pos hlt, if_pos (by omega), if_pos hlt]
   have e : rd_T55 l (pre.length : Int) = t := by subst h; exact rdS_at rfl
   rw [e, empty_at]
  ·refine ev_some rfl ?_
   cases he : emptyS t with
   | true =>
    refine ev_if_pos rfl ?_
    have : idxE l = pre.length := by
     unfold idxE
     have : l.findIdx? emptyS = some pre.length := by
      rw [List.findIdx?_eq_some_iff_getElem]
      subst h
      refine ⟨by simp, by simpa using he, fun j hj => ?_⟩
      rw [List.getElem_append_left hj]
      simpa using hp _ (List.getElem_mem hj)
     rw [this]
    rw [this]
    exact Ev.now _
   | false =>
    refine ev_if_neg (by simp) ?_
    rw [w64 (by omega) (by omega)]
    have := indexFunc_loop l hl r (pre ++ [t]) (by simpa using h) (by intro s hs; rcases List.mem_append.1 hs with h1 | h1; exact hp s h1; simp at h1; rw [h1]; exact he)
    simpa using this
theorem indexFunc_is (l : List Sp) (hl : l.length ≤ 4611686018427387904) : Ev (fun k => api_Span_89.f k l) (idxE l) := by
 unfold api_Span_89.f
 exact indexFunc_loop l hl l [] rfl (by simp)
theorem deleteFunc_loop : ∀ (r kept junk : List Sp) (j0 : Sp) (n : Int), n = (kept.length + (junk.length + 1) : Nat) → kept.length + junk.length + r.length ≤ 4611686018427387904 →
  Ev (fun k => api_Span_69.l0 k (kept ++ j0 :: (junk ++ r)) (kept.length : Int) n) (kept ++ r.filter (fun s => !emptyS s))
 | [], kept, junk, j0, n, hn, hl => by
  refine Ev.step (f := fun _ => some kept) (fun k => ?_) (by simpa using Ev.now kept)
  rw [api_Span_69.l0, if_neg (by subst hn; simp), if_pos (by omega), if_pos (by simp <;> omega)]
  simp
 | t :: r, kept, junk, j0, n, hn, hl => by
  have hlen : (n : Int) < ((kept ++ j0 :: (junk ++ t :: r)).length : Int) := by subst hn; simp <;> omega
  have ha : kept ++ j0 :: (junk ++ t :: r) = (kept ++ j0 :: junk) ++ t :: r := by simp
  have hrd : rd_T55 (kept ++ j0 :: (junk ++ t :: r)) n = t := by rw [ha]; exact rdS_at (by subst hn; simp)
  simp only [List.length_cons] at hl
  refine Ev.step (f := fun k => (some (emptyS t)).bind fun t104 => if t104 = true then api_Span_69.l0 k (kept ++ j0 :: (junk ++ t :: r)) (kept.length : Int) (wrap64 (n + 1)) else api_Span_69.l0 k (kept ++ t :: (junk ++ t :: r)) (wrap64 (kept.length + 1)) (wrap64 (n + 1))) (fun k => ?_) ?_
  ·rw [api_Span_69.l0, if_pos hlen, if_pos (by omega), hrd, empty_at]
   congr 1
   funext b
   cases b with
   | true => rfl
   | false =>
    simp only [Bool.false_eq_true, if_false]
    rw [if_pos (by omega), if_pos (by simp <;> omega), setS_at rfl]
  ·refine ev_some rfl ?_
   have w1 : wrap64 (n + 1) = n + 1 := w64 (by omega) (by omega)
   cases he : emptyS t with
   | true =>
    refine ev_if_pos rfl ?_
    rw [w1]
    have := deleteFunc_loop r kept (junk ++ [t]) j0 (n + 1) (by subst hn; simp <;> omega) (by simp <;> omega)
    simpa [he] using this
   | false =>
    refine ev_if_neg (by simp) ?_
    rw [w1, w64 (by omega) (by omega)]
    rcases junk with _ | ⟨j1, js⟩
    ·have := deleteFunc_loop r (kept ++ [t]) [] t (n + 1) (by subst hn; simp <;> omega) (by simp <;> omega)
     simpa [he] using this
    ·have := deleteFunc_loop r (kept ++ [t]) (js ++ [t]) j1 (n + 1) (by subst hn; simp <;> omega) (by simp; simp at hl; omega)
     simpa [he] using this
theorem split_empty : ∀ (l : List Sp), (∀ s ∈ l, emptyS s = false) ∨ ∃ pre j r, l = pre ++ j :: r ∧ (∀ s ∈ pre, emptyS s = false) ∧ emptyS j = true
 | [] => .inl (by simp)
 | s :: l => by
  cases he : emptyS s with
  | true => exact .inr ⟨[], s, l, rfl, by simp, he⟩
  | false =>
   rcases split_empty l with h | ⟨pre, j, r, rfl, h1, h2⟩
   ·exact .inl (by intro x hx; rcases List.mem_cons.1 hx with rfl | hx; exact he; exact h x hx)
   ·exact .inr ⟨s :: pre, j, r, rfl, by intro x hx; rcases List.mem_cons.1 hx with rfl | hx; exact he; exact h1 x hx, h2⟩
theorem deleteFunc_is (l : List Sp) (hl : l.length ≤ 4611686018427387904) : Ev (fun k => api_Span_69.f k l) (l.filter (fun s => !emptyS s)) := by
 unfold api_Span_69.f
 refine Ev.bind (indexFunc_is l hl) ?_
 rcases split_empty l with h | ⟨pre, j, r, rfl, h1, h2⟩
 ·have e : idxE l = -1 := by
   unfold idxE
   have : l.findIdx? emptyS = none := by rw [List.findIdx?_eq_none_iff]; simpa using h
   rw [this]
  refine ev_if_pos e ?_
  have : l.filter (fun s => !emptyS s) = l := by rw [List.filter_eq_self]; intro s hs; simp [h s hs]
  rw [this]
  exact Ev.now _
 ·have e : idxE (pre ++ j :: r) = pre.length := by
   unfold idxE
   have : (pre ++ j :: r).findIdx? emptyS = some pre.length := by
    rw [List.findIdx?_eq_some_iff_getElem]
    refine ⟨by simp, by simpa using h2, fun i hi => ?_⟩
    rw [List.getElem_append_left hi]
    simpa using h1 _ (List.getElem_mem hi)
   rw [this]
  rw [e]
  simp at hl
  refine ev_if_neg (by omega) ?_
  rw [w64 (by omega) (by omega)]
  have := deleteFunc_loop r pre [] j ((pre.length : Int) + 1) (by simp) (by simp <;> omega)
  have hf : (pre ++ j :: r).filter (fun s => !emptyS s) = pre ++ r.filter (fun s => !emptyS s) := by
   rw [List.filter_append, List.filter_eq_self.2 (by intro s hs; simp [h1 s hs])]
   simp [h2]
  rw [hf]
  simpa using this
theorem of_loop : ∀ (r pre junk : List Sp) (cur : Sp) (n : Int), n = (pre.length + (junk.length + 1) : Nat) → pre.length + junk.length + r.length ≤ 4611686018427387904 → cur.f2.size + sizeS r ≤ 9223372036854775807 →
  Ev (fun k => normal_Of.l0 k (pre ++ cur :: (junk ++ r)) (pre.length : Int) ((pre.length + (junk.length + 1) + r.length : Nat) : Int) n) (pre ++ runs cur r)
 | [], pre, junk, cur, n, hn, hl, hs => by
  refine Ev.step (f := fun _ => some (pre ++ [cur])) (fun k => ?_) (Ev.now _)
  rw [normal_Of.l0, if_neg (by subst hn; simp), w64 (by omega) (by omega)]
  have e : mn ((pre.length : Int) + 1) ((pre ++ cur :: (junk ++ [])).length : Int) = (pre.length : Int) + 1 := by
   unfold mn
   rw [if_neg (by simp <;> omega)]
  rw [e, if_pos (by omega), if_pos (by simp <;> omega)]
  rw [show ((pre.length : Int) + 1).toNat = (pre ++ [cur]).length by simp <;> omega]
  rw [show pre ++ cur :: (junk ++ []) = (pre ++ [cur]) ++ junk by simp, List.take_left]
 | t :: r, pre, junk, cur, n, hn, hl, hs => by
  have ha : pre ++ cur :: (junk ++ t :: r) = (pre ++ cur :: junk) ++ t :: r := by simp
  have hlen : (pre ++ cur :: (junk ++ t :: r)).length = pre.length + (junk.length + 1) + (t :: r).length := by simp <;> omega
  have hrd : rd_T55 (pre ++ cur :: (junk ++ t :: r)) n = t := by rw [ha]; exact rdS_at (by subst hn; simp)
  have hcur : rd_T55 (pre ++ cur :: (junk ++ t :: r)) (pre.length : Int) = cur := rdS_at rfl
  simp only [List.length_cons] at hl
  have hs' : cur.f2.size + (t.f2.size + sizeS r) ≤ 9223372036854775807 := by simpa [sizeS] using hs
  have w1 : wrap64 (n + 1) = n + 1 := w64 (by omega) (by omega)
  have e1 : ((pre.length + (junk.length + 1) + (t :: r).length : Nat) : Int) = ((pre.length + ((junk ++ [t]).length + 1) + r.length : Nat) : Int) := by simp <;> omega
  by_cases hk : t.f0 = cur.f0
  ·refine Ev.step (f := fun k => normal_Of.l0 k (pre ++ joinS cur t :: ((junk ++ [t]) ++ r)) (pre.length : Int) ((pre.length + ((junk ++ [t]).length + 1) + r.length : Nat) : Int) (n + 1)) (fun k => ?_) ?_
   ·rw [normal_Of.l0, if_pos (by subst hn; simp <;> omega), if_pos (by omega), if_pos (by rw [hlen]; subst hn; simp <;> omega), if_neg (by omega), if_pos (by omega), if_pos (by rw [hlen]; simp <;> omega), hrd, hcur, if_pos hk, Option.bind_some, setS_at rfl]
    simp only [rdS_at (c := (⟨cur.f0, wrap64 (cur.f1 + t.f1), cur.f2⟩ : Sp)) (r := junk ++ t :: r) (pre := pre) rfl]
    rw [if_pos (by omega), setS_at rfl, w1, e1]
    simp [joinS]
   ·rw [runs, if_pos hk]
    exact of_loop r pre (junk ++ [t]) (joinS cur t) (n + 1) (by subst hn; simp <;> omega) (by simp <;> omega) (by simp [joinS, ByteArray.size_append]; omega)
  ·have w2 : wrap64 ((pre.length : Int) + 1) = (pre.length : Int) + 1 := w64 (by omega) (by omega)
   rw [runs, if_neg hk]
   rcases junk with _ | ⟨j1, js⟩
   ·refine Ev.step (f := fun k => normal_Of.l0 k ((pre ++ [cur]) ++ t :: ([] ++ r)) ((pre ++ [cur]).length : Int) (((pre ++ [cur]).length + (([] : List Sp).length + 1) + r.length : Nat) : Int) (n + 1)) (fun k => ?_) ?_
    ·rw [normal_Of.l0, if_pos (by subst hn; simp <;> omega), if_pos (by omega), if_pos (by rw [hlen]; subst hn; simp <;> omega), if_neg (by omega), if_pos (by omega), if_pos (by rw [hlen]; simp <;> omega), hrd, hcur, if_neg hk, w2, if_pos (by omega), if_pos (by rw [hlen]; simp <;> omega), w1]
     rw [show pre ++ cur :: ([] ++ t :: r) = (pre ++ [cur]) ++ t :: r by simp, setS_at (by simp)]
     simp
     try (congr 1; done)
     try (congr 1; omega)
    ·have := of_loop r (pre ++ [cur]) [] t (n + 1) (by subst hn; simp <;> omega) (by simp <;> omega) (by omega)
     simpa using this
   ·refine Ev.step (f := fun k => normal_Of.l0 k ((pre ++ [cur]) ++ t :: ((js ++ [t]) ++ r)) ((pre ++ [cur]).length : Int) (((pre ++ [cur]).length + ((js ++ [t]).length + 1) + r.length : Nat) : Int) (n + 1)) (fun k => ?_) ?_
    ·rw [normal_Of.l0, if_pos (by subst hn; simp <;> omega), if_pos (by omega), if_pos (by rw [hlen]; subst hn; simp <;> omega), if_neg (by omega), if_pos (by omega), if_pos (by rw [hlen]; simp <;> omega), hrd, hcur, if_neg hk, w2, if_pos (by omega), if_pos (by rw [hlen]; simp <;> omega), w1]
     rw [show pre ++ cur :: ((j1 :: js) ++ t :: r) = (pre ++ [cur]) ++ j1 :: (js ++ t :: r) by simp, setS_at (by simp)]
     simp
     congr 1
     omega
    ·have := of_loop r (pre ++ [cur]) (js ++ [t]) t (n + 1) (by subst hn; simp <;> omega) (by simp; simp at hl; omega) (by omega)
     simpa using this
theorem merge_is (l : List Sp) (hl : l.length ≤ 4611686018427387904) (hs : sizeS l ≤ 9223372036854775807) : Ev (fun k => normal_Of.l0 k l 0 (l.length : Int) 0) (mergeS l) := by
 rcases l with _ | ⟨s, r⟩
 ·refine Ev.step (f := fun _ => some []) (fun k => ?_) (Ev.now _)
  rw [normal_Of.l0, if_neg (by simp)]
  simp [mn, wrap64]
 ·simp only [List.length_cons] at hl
  refine Ev.step (f := fun k => normal_Of.l0 k (s :: r) 0 ((s :: r).length : Int) 1) (fun k => ?_) ?_
  ·rw [normal_Of.l0, if_pos (by simp <;> omega), if_pos (by omega), if_pos (by simp <;> omega), if_pos rfl, w64 (by omega) (by omega)]
   rfl
  ·have := of_loop r [] [] s 1 (by simp) (by simp <;> omega) (by simpa [sizeS] using hs)
   have e : ((([] : List Sp).length + (([] : List Sp).length + 1) + r.length : Nat) : Int) = ((s :: r).length : Int) := by simp <;> omega
   rw [e] at this
   exact this
theorem sizeS_filter (p : Sp → Bool) : ∀ l, sizeS (l.filter p) ≤ sizeS l
 | [] => Nat.le_refl _
 | s :: l => by
  have := sizeS_filter p l
  by_cases h : p s = true
  ·rw [List.filter_cons_of_pos h]; simp only [sizeS, List.map_cons, List.sum_cons] at this ⊢; omega
  ·rw [List.filter_cons_of_neg h]; simp only [sizeS, List.map_cons, List.sum_cons] at this ⊢; omega
theorem normal_is (l : List Sp) (hl : l.length < 4398046511104) (hs : sizeS l ≤ 9223372036854775807) : Ev (fun k => normal_Of.f k l) (norm l) := by
 unfold normal_Of.f
 refine ev_some rfl (ev_if_pos (by simpa using hl) ?_)
 refine Ev.bind (deleteFunc_is l (by omega)) ?_
 exact merge_is (l.filter (fun s => !emptyS s)) (Nat.le_trans (List.length_filter_le _ _) (by omega)) (Nat.le_trans (sizeS_filter _ _) hs)
end Go.Proofs.YtekjfodfedpioaaDoor.F
end
section
namespace Go.Proofs.YtekjfodfedpioaaDoor.F
open Go.RowKit Go.Proofs.YtekjfodfedpioaaDoorW.PrintWords Go.Proofs.YtekjfodfedpioaaDoorW.PrintLast Go.Proofs.YtekjfodfedpioaaDoorW.PrintMore
set_option linter.unusedVariables false
set_option linter.unusedSimpArgs false
def isRune (r : Int) : Prop := (0 ≤ r ∧ r < 55296) ∨ (57344 ≤ r ∧ r ≤ 1114111)
def enc1 (r : Int) : List Int :=
 if r < 128 then [r] else if r < 2048 then [192 + r / 64, 128 + r % 64]
 else if r < 65536 then [224 + r / 4096, 128 + r / 64 % 64, 128 + r % 64]
 else [240 + r / 262144, 128 + r / 4096 % 64, 128 + r / 64 % 64, 128 + r % 64]
def encB (l : List Int) : List Int := l.flatMap enc1
def encT (l : List Int) : ByteArray := strOfNums (encB l)
theorem enc1_length (r : Int) : 1 ≤ (enc1 r).length ∧ (enc1 r).length ≤ 4 := by
 unfold enc1
 split
 ·simp
 ·split
  ·simp
  ·split <;> simp
theorem encB_cons (r : Int) (l : List Int) : encB (r :: l) = enc1 r ++ encB l := by simp [encB]
theorem encB_append (a b : List Int) : encB (a ++ b) = encB a ++ encB b := by simp [encB]
theorem encB_length (l : List Int) : l.length ≤ (encB l).length ∧ (encB l).length ≤ 4 * l.length := by
 induction l with
 | nil => simp [encB]
 | cons r l ih =>
  have := enc1_length r
  rw [encB_cons]
  simp
  omega
theorem strOfNums_append (a b : List Int) : strOfNums (a ++ b) = strOfNums a ++ strOfNums b := by
 apply ByteArray.ext
 rw [ByteArray.data_append]
 simp [strOfNums]
theorem encT_append (a b : List Int) : encT (a ++ b) = encT a ++ encT b := by unfold encT; rw [encB_append, strOfNums_append]
theorem encT_nil : encT [] = ⟨#[]⟩ := rfl
theorem encT_size (l : List Int) : l.length ≤ (encT l).size ∧ (encT l).size ≤ 4 * l.length := by
 unfold encT
 rw [strOfNums_size]
 exact encB_length l
theorem encT_none (l : List Int) : (encT l).toList = [] ↔ l = [] := by
 rw [ByteArray.toList_eq]
 constructor
 ·intro h
  have h2 := (encT_size l).1
  have : (encT l).size = 0 := by rw [← data_length, h]; rfl
  exact List.eq_nil_of_length_eq_zero (by omega)
 ·rintro rfl
  rfl
theorem size_is (r : Int) (h : isRune r) : Ev (fun k => epitomeref01_size.f k r) ((enc1 r).length : Int) := by
 have hj : Ev (fun k => epitomeref01_size.j0 k r false) ((enc1 r).length : Int) := by
  refine Ev.step (f := fun _ => some ((enc1 r).length : Int)) (fun k => ?_) (Ev.now _)
  rw [epitomeref01_size.j0, if_neg (by simp)]
  unfold enc1
  split
  ·rfl
  ·split
   ·rfl
   ·split <;> rfl
 unfold epitomeref01_size.f
 unfold isRune at h
 refine ev_if_neg (by omega) (ev_if_neg (by omega) ?_)
 by_cases h1 : r ≥ 55296
 ·refine ev_if_pos h1 ?_
  rw [show decide (r ≤ 57343) = false by simp; omega]
  exact hj
 ·exact ev_if_neg h1 hj
theorem refOf_loop (l : List Int) (hl : l.length ≤ 4398046511104) (hr : ∀ r ∈ l, isRune r) : ∀ (r pre acc : List Int), l = pre ++ r → acc.length ≤ 4 * pre.length →
  Ev (fun k => epitomeref01_Of.l0 k l acc (pre.length : Int)) (strOfNums (acc ++ encB r))
 | [], pre, acc, h, ha => by
  refine Ev.step (f := fun _ => some (strOfNums acc)) (fun k => ?_) (by simpa [encB] using Ev.now (strOfNums acc))
  rw [epitomeref01_Of.l0, if_neg (by subst h; simp)]
 | t :: r, pre, acc, h, ha => by
  have hlt : (pre.length : Int) < (l.length : Int) := by subst h; simp <;> omega
  have ht : isRune t := hr t (by rw [h]; simp)
  have hrd : rd l (pre.length : Int) = t := by subst h; unfold rd; simp [List.getD_eq_getElem?_getD]
  have hpl : pre.length < 4398046511104 := by omega
  have ht' := ht
  unfold isRune at ht'
  have w0 : wrap64 t = t := w64 (by omega) (by omega)
  have hz := size_is t ht
  have e64 : Int.tdiv t 64 = t / 64 := Int.tdiv_eq_ediv_of_nonneg (by omega)
  have e4096 : Int.tdiv t 4096 = t / 4096 := Int.tdiv_eq_ediv_of_nonneg (by omega)
  have e262144 : Int.tdiv t 262144 = t / 262144 := Int.tdiv_eq_ediv_of_nonneg (by omega)
  have m64 : Int.tmod t 64 = t % 64 := Int.tmod_eq_emod_of_nonneg (by omega)
  have w1 : wrap64 ((pre.length : Int) + 1) = ((pre ++ [t]).length : Int) := by rw [w64 (by omega) (by omega)]; simp
  have next : ∀ ys : List Int, ys = enc1 t → Ev (fun k => epitomeref01_Of.l0 k l (acc ++ ys) (wrap64 ((pre.length : Int) + 1))) (strOfNums (acc ++ encB (t :: r))) := by
   intro ys hy
   have := refOf_loop l hl hr r (pre ++ [t]) (acc ++ ys) (by simp [h]) (by have := enc1_length t; rw [hy]; simp <;> omega)
   rw [w1, encB_cons, ← List.append_assoc, ← hy]
   exact this
  refine Ev.step (f := fun k => _) (fun k => by rw [epitomeref01_Of.l0, if_pos hlt, if_pos (by omega), hrd, w0]) ?_
  refine Ev.bind hz ?_
  by_cases c1 : t < 128
  ·have hy : enc1 t = [t] := by unfold enc1; rw [if_pos c1]
   refine ev_if_pos (by rw [hy]; rfl) (ev_if_pos (by omega) ?_)
   exact next _ (by rw [hy, show t % 256 = t by omega])
  ·by_cases c2 : t < 2048
   ·have hy : enc1 t = [192 + t / 64, 128 + t % 64] := by unfold enc1; rw [if_neg c1, if_pos c2]
    refine ev_if_neg (by rw [hy]; simp) (ev_if_pos (by rw [hy]; rfl) (ev_some rfl (ev_if_pos (by simp; omega) ?_)))
    refine next _ ?_
    rw [hy, e64, m64]
    congr 1
    ·unfold wrap64; omega
    ·congr 1; unfold wrap64; omega
   ·by_cases c3 : t < 65536
    ·have hy : enc1 t = [224 + t / 4096, 128 + t / 64 % 64, 128 + t % 64] := by unfold enc1; rw [if_neg c1, if_neg c2, if_pos c3]
     refine ev_if_neg (by rw [hy]; simp) (ev_if_neg (by rw [hy]; simp) (ev_if_pos (by rw [hy]; rfl) (ev_some rfl (ev_if_pos (by simp; omega) ?_))))
     refine next _ ?_
     have m2 : Int.tmod (wrap64 (t / 64)) 64 = t / 64 % 64 := by rw [w64 (by omega) (by omega)]; exact Int.tmod_eq_emod_of_nonneg (by omega)
     rw [hy, e4096, e64, m64, m2]
     congr 1
     ·unfold wrap64; omega
     ·congr 1
      ·unfold wrap64; omega
      ·congr 1; unfold wrap64; omega
    ·have hy : enc1 t = [240 + t / 262144, 128 + t / 4096 % 64, 128 + t / 64 % 64, 128 + t % 64] := by unfold enc1; rw [if_neg c1, if_neg c2, if_neg c3]
     refine ev_if_neg (by rw [hy]; simp) (ev_if_neg (by rw [hy]; simp) (ev_if_neg (by rw [hy]; simp) (ev_if_pos (by rw [hy]; rfl) (ev_some rfl (ev_if_pos (by simp; omega) ?_)))))
     refine next _ ?_
     have m2 : Int.tmod (wrap64 (t / 64)) 64 = t / 64 % 64 := by rw [w64 (by omega) (by omega)]; exact Int.tmod_eq_emod_of_nonneg (by omega)
     have m3 : Int.tmod (wrap64 (t / 4096)) 64 = t / 4096 % 64 := by rw [w64 (by omega) (by omega)]; exact Int.tmod_eq_emod_of_nonneg (by omega)
     rw [hy, e262144, e4096, e64, m64, m2, m3]
     congr 1
     ·unfold wrap64; omega
     ·congr 1
      ·unfold wrap64; omega
      ·congr 1
       ·unfold wrap64; omega
       ·congr 1; unfold wrap64; omega
theorem refOf_is (l : List Int) (hl : l.length ≤ 4398046511104) (hr : ∀ r ∈ l, isRune r) : Ev (fun k => epitomeref01_Of.f k l) (encT l) := by
 unfold epitomeref01_Of.f
 exact refOf_loop l hl hr l [] [] rfl (by simp)
def alpha : List Int := [97, 98, 99, 120, 121, 233, 8364, 128512]
def fitRunes (s : ByteArray) : List Int := s.data.toList.map (fun b => alpha.getD (b.toNat % 8) 0)
theorem fitRunes_mem (s : ByteArray) : ∀ r ∈ fitRunes s, r ∈ alpha := by
 intro r hr
 unfold fitRunes at hr
 obtain ⟨b, _, rfl⟩ := List.mem_map.1 hr
 have hb : b.toNat % 8 < alpha.length := Nat.mod_lt _ (by decide)
 rw [List.getD_eq_getElem?_getD, List.getElem?_eq_getElem hb]
 exact List.getElem_mem hb
theorem alpha_rune : ∀ r ∈ alpha, isRune r := by
 intro r hr
 unfold isRune
 simp [alpha] at hr
 omega
theorem fitRunes_length (s : ByteArray) : (fitRunes s).length = s.size := by unfold fitRunes; rw [List.length_map, data_length]
theorem fit01_loop (s : ByteArray) (hs : s.size ≤ 1099511627776) : ∀ (r pre : List UInt8), s.data.toList = pre ++ r →
  Ev (fun k => epitomeref01_Fit.l0 k s (pre.map (fun b => alpha.getD (b.toNat % 8) 0)) (pre.length : Int) 97 98 99 120 121 233 8364 128512) (encT (fitRunes s))
 | [], pre, h => by
  have hz : pre.length = s.size := by rw [← data_length, h]; simp
  refine Ev.step (f := fun k => (epitomeref01_Of.f k (fitRunes s)).bind fun t => some t) (fun k => ?_) ?_
  ·rw [epitomeref01_Fit.l0, if_neg (by omega)]
   unfold fitRunes
   rw [h, List.append_nil]
  ·exact Ev.bind (refOf_is _ (by rw [fitRunes_length]; omega) (fun r hr => alpha_rune r (fitRunes_mem s r hr))) (Ev.now _)
 | b :: r, pre, h => by
  have hz : pre.length + (r.length + 1) = s.size := by rw [← data_length, h, List.length_append, List.length_cons]
  have hbt : bt s (pre.length : Int) = b.toNat := by
   rw [← rd_bytesOf]
   unfold rd bytesOf
   rw [h]
   simp [List.getD_eq_getElem?_getD]
  refine Ev.step (f := fun k => epitomeref01_Fit.l0 k s ((pre ++ [b]).map (fun b => alpha.getD (b.toNat % 8) 0)) ((pre ++ [b]).length : Int) 97 98 99 120 121 233 8364 128512) (fun k => ?_) (fit01_loop s hs r (pre ++ [b]) (by simp [h]))
  rw [epitomeref01_Fit.l0, if_pos (by omega), if_pos (by omega), hbt]
  have hf : fit_rune.f 97 98 99 120 121 233 8364 128512 (Int.tmod (b.toNat : Int) 8) = some (alpha.getD (b.toNat % 8) 0) := by
   unfold fit_rune.f
   rw [show (Int.tmod (b.toNat : Int) 8).toNat = b.toNat % 8 by rw [Int.tmod_eq_emod_of_nonneg (by omega)]; omega]
   have hb : b.toNat % 8 < alpha.length := Nat.mod_lt _ (by decide)
   rw [List.getD_eq_getElem?_getD, List.getElem?_eq_getElem hb]
   exact List.getElem?_eq_getElem hb
  rw [hf, Option.bind_some, if_pos (by simp; omega), w64 (by omega) (by omega)]
  simp
theorem fit01_is (s : ByteArray) (hs : s.size ≤ 1099511627776) : Ev (fun k => epitomeref01_Fit.f k s) (encT (fitRunes s)) := by
 unfold epitomeref01_Fit.f
 exact fit01_loop s hs s.data.toList [] rfl
end Go.Proofs.YtekjfodfedpioaaDoor.F
end
section
namespace Go.Proofs.YtekjfodfedpioaaDoor.F
open Go.RowKit Go.Proofs.YtekjfodfedpioaaDoorW.PrintWords Go.Proofs.YtekjfodfedpioaaDoorW.PrintLast Go.Proofs.YtekjfodfedpioaaDoorW.PrintMore
set_option linter.unusedVariables false
set_option linter.unusedSimpArgs false
inductive Un where
 | keep (n : Nat)
 | put (l : List Int)
 | drop (n : Nat)
def Un.sp : Un → Sp
 | .keep n => ⟨1, n, ⟨#[]⟩⟩
 | .put l => ⟨2, 0, encT l⟩
 | .drop n => ⟨3, n, ⟨#[]⟩⟩
def Un.cin : Un → Nat
 | .keep n => n
 | .put _ => 0
 | .drop n => n
def Un.cout : Un → Nat
 | .keep n => n
 | .put l => l.length
 | .drop _ => 0
def Un.few : Un → Prop
 | .keep n => n ≤ 63
 | .put l => l.length ≤ 6 ∧ ∀ r ∈ l, r ∈ alpha
 | .drop n => n ≤ 63
theorem kind_range (x : Int) (h : -9223372036854775808 ≤ x) (h2 : x ≤ 9223372036854775807) :
  let k := wrap64 (1 + Int.tmod (wrap64 (Int.tmod x 3 + 3)) 3); k = 1 ∨ k = 2 ∨ k = 3 := by
 intro k
 have h1 : -3 < Int.tmod x 3 := by have := Int.lt_tmod_of_pos x (show (0 : Int) < 3 by decide); omega
 have h3 : Int.tmod x 3 < 3 := Int.tmod_lt_of_pos x (by decide)
 have e : wrap64 (Int.tmod x 3 + 3) = Int.tmod x 3 + 3 := w64 (by omega) (by omega)
 have e2 : Int.tmod (Int.tmod x 3 + 3) 3 = (Int.tmod x 3 + 3) % 3 := Int.tmod_eq_emod_of_nonneg (by omega)
 have e3 : k = 1 + (Int.tmod x 3 + 3) % 3 := by
  show wrap64 _ = _
  rw [e, e2, w64 (by omega) (by omega)]
 omega
theorem many_range (x : Int) (h : -9223372036854775808 ≤ x) (h2 : x ≤ 9223372036854775807) :
  0 ≤ Int.tmod (wrap64 (Int.tmod x 7 + 7)) 7 ∧ Int.tmod (wrap64 (Int.tmod x 7 + 7)) 7 ≤ 6 := by
 have h1 : -7 < Int.tmod x 7 := by have := Int.lt_tmod_of_pos x (show (0 : Int) < 7 by decide); omega
 have h3 : Int.tmod x 7 < 7 := Int.tmod_lt_of_pos x (by decide)
 rw [w64 (by omega) (by omega), Int.tmod_eq_emod_of_nonneg (by omega)]
 omega
theorem mn_le (a b : Int) : mn a b ≤ a ∧ mn a b ≤ b ∧ (mn a b = a ∨ mn a b = b) := by
 unfold mn
 split <;> omega
theorem extract_size (s : ByteArray) (n : Nat) : (s.extract 0 n).size ≤ n := by
 rw [ByteArray.size_extract]
 omega
theorem fit04_end (l : List Sp) (m : Nat) (acc : List Sp) (i : Int) (hacc : acc.length ≤ 12) :
  Ev (fun k => epitomeref04_Fit.j1 k l (m : Int) acc i false) (acc ++ (if m = 0 then ([] : List Un) else [Un.keep m]).map Un.sp) := by
 by_cases h : m = 0
 ·subst h
  refine Ev.step (f := fun _ => some acc) (fun k => ?_) (by simpa using Ev.now acc)
  rw [epitomeref04_Fit.j1, if_neg (by simp), if_neg (by simp)]
 ·refine Ev.step (f := fun _ => some (acc ++ [⟨1, (m : Int), ⟨#[]⟩⟩])) (fun k => ?_) (by rw [if_neg h]; exact Ev.now _)
  rw [epitomeref04_Fit.j1, if_neg (by simp), if_pos (by omega), if_pos (by omega)]
end Go.Proofs.YtekjfodfedpioaaDoor.F
end
section
namespace Go.Proofs.YtekjfodfedpioaaDoor.F
open Go.RowKit Go.Proofs.YtekjfodfedpioaaDoorW.PrintWords Go.Proofs.YtekjfodfedpioaaDoorW.PrintLast Go.Proofs.YtekjfodfedpioaaDoorW.PrintMore
set_option linter.unusedVariables false
set_option linter.unusedSimpArgs false
theorem runs_length : ∀ (r : List Sp) (c : Sp), (runs c r).length ≤ r.length + 1
 | [], c => by simp [runs]
 | t :: r, c => by
  rw [runs]
  split
  ·have := runs_length r (joinS c t); simp; omega
  ·have := runs_length r t; simp; omega
end Go.Proofs.YtekjfodfedpioaaDoor.F
end
section
namespace Go.Proofs.YtekjfodfedpioaaDoor.F
open Go.RowKit Go.Proofs.YtekjfodfedpioaaDoorW.PrintWords Go.Proofs.YtekjfodfedpioaaDoorW.PrintLast Go.Proofs.YtekjfodfedpioaaDoorW.PrintMore
set_option linter.unusedVariables false
set_option linter.unusedSimpArgs false
theorem joinS_assoc (a b c : Sp) : joinS (joinS a b) c = joinS a (joinS b c) := by
 unfold joinS
 have e : wrap64 (wrap64 (a.f1 + b.f1) + c.f1) = wrap64 (a.f1 + wrap64 (b.f1 + c.f1)) := by unfold wrap64; omega
 simp only [e, ByteArray.append_assoc]
theorem runs_head (r : List Sp) (c : Sp) : ∃ d q, runs c r = d :: q ∧ d.f0 = c.f0 := by
 induction r generalizing c with
 | nil => exact ⟨c, [], rfl, rfl⟩
 | cons t r ih =>
  rw [runs]
  split
  ·obtain ⟨d, q, e, h⟩ := ih (joinS c t)
   exact ⟨d, q, e, h⟩
  ·exact ⟨c, _, rfl, rfl⟩
theorem merge_runs_left (b : List Sp) : ∀ (a : List Sp) (c : Sp), mergeS (runs c a ++ b) = runs c (a ++ b)
 | [], c => rfl
 | t :: r, c => by
  rw [List.cons_append, runs, runs]
  by_cases h : t.f0 = c.f0
  ·rw [if_pos h, if_pos h]
   exact merge_runs_left b r (joinS c t)
  ·rw [if_neg h, if_neg h]
   obtain ⟨d, q, e, hd⟩ := runs_head r t
   have ih := merge_runs_left b r t
   rw [e] at ih ⊢
   show runs c (d :: (q ++ b)) = _
   rw [runs, if_neg (by rw [hd]; exact h), ← ih]
   rfl
theorem merge_idem (r : List Sp) (t : Sp) : mergeS (runs t r) = runs t r := by
 have := merge_runs_left [] r t
 simpa using this
theorem runs_runs : ∀ (r : List Sp) (t c : Sp), runs c (runs t r) = runs c (t :: r)
 | [], t, c => rfl
 | u :: r, t, c => by
  by_cases hu : u.f0 = t.f0
  ·have e1 : runs t (u :: r) = runs (joinS t u) r := by rw [runs, if_pos hu]
   rw [e1, runs_runs r (joinS t u) c]
   by_cases ht : t.f0 = c.f0
   ·have e2 : runs c (joinS t u :: r) = runs (joinS c (joinS t u)) r := by rw [runs, if_pos (show (joinS t u).f0 = c.f0 from ht)]
    have e3 : runs c (t :: u :: r) = runs (joinS (joinS c t) u) r := by rw [runs, if_pos ht, runs, if_pos (by show u.f0 = c.f0; rw [hu, ht])]
    rw [e2, e3, joinS_assoc]
   ·have e2 : runs c (joinS t u :: r) = c :: runs (joinS t u) r := by rw [runs, if_neg (show ¬ (joinS t u).f0 = c.f0 from ht)]
    have e3 : runs c (t :: u :: r) = c :: runs (joinS t u) r := by rw [runs, if_neg ht, runs, if_pos hu]
    rw [e2, e3]
  ·have e1 : runs t (u :: r) = t :: runs u r := by rw [runs, if_neg hu]
   rw [e1]
   by_cases ht : t.f0 = c.f0
   ·rw [runs, if_pos ht, runs_runs r u (joinS c t), runs, runs, if_pos ht]
    rw [runs]
   ·have e3 : runs c (t :: u :: r) = c :: t :: runs u r := by rw [runs, if_neg ht, runs, if_neg hu]
    rw [e3, runs, if_neg ht]
    have := merge_idem r u
    have h2 := runs_runs r u t
    rw [h2, runs, if_neg hu]
theorem runs_right (b : List Sp) : ∀ (a : List Sp) (c : Sp), runs c (a ++ mergeS b) = runs c (a ++ b)
 | [], c => by
  cases b with
  | nil => rfl
  | cons t r => exact runs_runs r t c
 | t :: a, c => by
  rw [List.cons_append, List.cons_append, runs, runs, runs_right b a, runs_right b a]
theorem merge_right (a b : List Sp) : mergeS (a ++ mergeS b) = mergeS (a ++ b) := by
 cases a with
 | nil =>
  cases b with
  | nil => rfl
  | cons t r => exact merge_idem r t
 | cons c a => exact runs_right b a c
theorem w64_succ (n : Nat) (h : n ≤ 4611686018427387904) : wrap64 ((n : Int) + 1) = ((n + 1 : Nat) : Int) := by
 rw [w64 (by omega) (by omega)]
 omega
end Go.Proofs.YtekjfodfedpioaaDoor.F
end
section
namespace Go.Proofs.YtekjfodfedpioaaDoor.F
open Go.RowKit Go.Proofs.YtekjfodfedpioaaDoorW.PrintWords Go.Proofs.YtekjfodfedpioaaDoorW.PrintLast Go.Proofs.YtekjfodfedpioaaDoorW.PrintMore
set_option linter.unusedVariables false
set_option linter.unusedSimpArgs false
inductive U where
 | k
 | d
 | p (r : Int)
deriving DecidableEq
def Un.ex : Un → List U
 | .keep n => List.replicate n .k
 | .put l => l.map .p
 | .drop n => List.replicate n .d
def exU (us : List Un) : List U := us.flatMap Un.ex
theorem exU_nil : exU [] = [] := rfl
theorem exU_cons (u : Un) (us : List Un) : exU (u :: us) = u.ex ++ exU us := by simp [exU]
def consU : U → List Un → List Un
 | .k, .keep n :: r => .keep (n + 1) :: r
 | .d, .drop n :: r => .drop (n + 1) :: r
 | .p c, .put l :: r => .put (c :: l) :: r
 | .k, r => .keep 1 :: r
 | .d, r => .drop 1 :: r
 | .p c, r => .put [c] :: r
def canon (x : List U) : List Un := x.foldr consU []
theorem canon_cons (u : U) (x : List U) : canon (u :: x) = consU u (canon x) := rfl
theorem canon_append (a b : List U) : canon (a ++ b) = a.foldr consU (canon b) := by unfold canon; rw [List.foldr_append]
theorem ex_consU (u : U) (c : List Un) : exU (consU u c) = u :: exU c := by
 cases u <;> rcases c with _ | ⟨v, r⟩ <;> first | rfl | (cases v <;> first | rfl | simp [consU, exU, Un.ex, List.replicate_succ])
theorem ex_canon : ∀ x : List U, exU (canon x) = x
 | [] => rfl
 | u :: x => by rw [canon_cons, ex_consU, ex_canon x]
def consUn : Un → List Un → List Un
 | .keep 0, c => c
 | .drop 0, c => c
 | .put [], c => c
 | .keep (n + 1), .keep m :: r => .keep (n + 1 + m) :: r
 | .drop (n + 1), .drop m :: r => .drop (n + 1 + m) :: r
 | .put (a :: l), .put m :: r => .put (a :: l ++ m) :: r
 | .keep (n + 1), c => .keep (n + 1) :: c
 | .drop (n + 1), c => .drop (n + 1) :: c
 | .put (a :: l), c => .put (a :: l) :: c
theorem foldr_keep : ∀ (n : Nat) (c : List Un), (List.replicate n U.k).foldr consU c = consUn (.keep n) c
 | 0, c => rfl
 | n + 1, c => by
  rw [List.replicate_succ, List.foldr_cons, foldr_keep n c]
  cases n with
  | zero => rcases c with _ | ⟨v, r⟩ <;> first | rfl | (cases v <;> first | rfl | simp [consUn, consU, Nat.add_comm])
  | succ n => rcases c with _ | ⟨v, r⟩ <;> first | rfl | (cases v <;> first | rfl | (simp only [consUn, consU]; congr 2; omega))
theorem foldr_drop : ∀ (n : Nat) (c : List Un), (List.replicate n U.d).foldr consU c = consUn (.drop n) c
 | 0, c => rfl
 | n + 1, c => by
  rw [List.replicate_succ, List.foldr_cons, foldr_drop n c]
  cases n with
  | zero => rcases c with _ | ⟨v, r⟩ <;> first | rfl | (cases v <;> first | rfl | simp [consUn, consU, Nat.add_comm])
  | succ n => rcases c with _ | ⟨v, r⟩ <;> first | rfl | (cases v <;> first | rfl | (simp only [consUn, consU]; congr 2; omega))
theorem foldr_put : ∀ (l : List Int) (c : List Un), (l.map U.p).foldr consU c = consUn (.put l) c
 | [], c => rfl
 | a :: l, c => by
  rw [List.map_cons, List.foldr_cons, foldr_put l c]
  cases l with
  | nil => rcases c with _ | ⟨v, r⟩ <;> first | rfl | (cases v <;> rfl)
  | cons b l => rcases c with _ | ⟨v, r⟩ <;> first | rfl | (cases v <;> rfl)
theorem canon_un (u : Un) (x : List U) : canon (u.ex ++ x) = consUn u (canon x) := by
 rw [canon_append]
 cases u with
 | keep n => exact foldr_keep n _
 | put l => exact foldr_put l _
 | drop n => exact foldr_drop n _
def cinU : List U → Nat
 | [] => 0
 | .p _ :: x => cinU x
 | _ :: x => cinU x + 1
def coutU : List U → Nat
 | [] => 0
 | .d :: x => coutU x
 | _ :: x => coutU x + 1
theorem cinU_append : ∀ a b : List U, cinU (a ++ b) = cinU a + cinU b
 | [], b => by simp [cinU]
 | u :: a, b => by cases u <;> simp [cinU, cinU_append a b] <;> omega
theorem coutU_append : ∀ a b : List U, coutU (a ++ b) = coutU a + coutU b
 | [], b => by simp [coutU]
 | u :: a, b => by cases u <;> simp [coutU, coutU_append a b] <;> omega
theorem cinU_un (u : Un) : cinU u.ex = u.cin := by
 cases u with
 | keep n => induction n with
  | zero => rfl
  | succ n ih => simp only [Un.ex, List.replicate_succ, cinU, Un.cin] at *; omega
 | put l => induction l with
  | nil => rfl
  | cons a l ih => simp only [Un.ex, List.map_cons, cinU, Un.cin] at *; omega
 | drop n => induction n with
  | zero => rfl
  | succ n ih => simp only [Un.ex, List.replicate_succ, cinU, Un.cin] at *; omega
theorem coutU_un (u : Un) : coutU u.ex = u.cout := by
 cases u with
 | keep n => induction n with
  | zero => rfl
  | succ n ih => simp only [Un.ex, List.replicate_succ, coutU, Un.cout] at *; omega
 | put l => induction l with
  | nil => rfl
  | cons a l ih => simp only [Un.ex, List.map_cons, coutU, Un.cout, List.length_cons] at *; omega
 | drop n => induction n with
  | zero => rfl
  | succ n ih => simp only [Un.ex, List.replicate_succ, coutU, Un.cout] at *; omega
theorem cinU_ex : ∀ us : List Un, cinU (exU us) = (us.map Un.cin).sum
 | [] => rfl
 | u :: us => by rw [exU_cons, cinU_append, cinU_un, cinU_ex us]; simp
theorem coutU_ex : ∀ us : List Un, coutU (exU us) = (us.map Un.cout).sum
 | [] => rfl
 | u :: us => by rw [exU_cons, coutU_append, coutU_un, coutU_ex us]; simp
theorem bb_none : (⟨#[]⟩ : ByteArray) ++ (⟨#[]⟩ : ByteArray) = ⟨#[]⟩ := by
 apply ByteArray.ext
 simp [ByteArray.data_append]
theorem runs_kind {t c : Sp} {r : List Sp} (h : runs t r = t :: r) (hk : c.f0 = t.f0) : runs c r = c :: r := by
 rcases r with _ | ⟨u, r⟩
 ·rfl
 ·rw [runs] at h ⊢
  by_cases hu : u.f0 = t.f0
  ·rw [if_pos hu] at h
   have := congrArg List.length h
   have h2 := runs_length r (joinS t u)
   simp at this
   omega
  ·rw [if_neg hu] at h
   rw [if_neg (by rw [hk]; exact hu)]
   injection h with _ h
   rw [h]
theorem norm_cons (s : Sp) (l : List Sp) : norm (s :: l) = if emptyS s = true then norm l else match norm l with
  | [] => [s]
  | t :: r => if t.f0 = s.f0 then joinS s t :: r else s :: t :: r := by
 cases he : emptyS s with
 | true => simp [norm, he]
 | false =>
  have e : norm (s :: l) = runs s (norm l) := by
   have h1 : norm (s :: l) = mergeS ([s] ++ l.filter (fun s => !emptyS s)) := by simp [norm, he]
   rw [h1, ← merge_right]
   rfl
  rw [e, if_neg (by simp)]
  generalize hn : norm l = m
  rcases m with _ | ⟨t, r⟩
  ·rfl
  ·have hm : runs t r = t :: r := by
    have : mergeS (t :: r) = t :: r := by
     rw [← hn]
     unfold norm
     generalize l.filter (fun s => !emptyS s) = f
     rcases f with _ | ⟨a, f⟩
     ·rfl
     ·exact merge_idem f a
    exact this
   simp only
   rw [runs]
   by_cases hk : t.f0 = s.f0
   ·rw [if_pos hk, if_pos hk]
    exact runs_kind hm hk.symm
   ·rw [if_neg hk, if_neg hk, hm]
theorem empty_keep (n : Nat) : emptyS (Un.keep n).sp = decide (n = 0) := by
 unfold emptyS Un.sp
 have : (⟨#[]⟩ : ByteArray).toList = [] := by rw [ByteArray.toList_eq]
 simp [this]
theorem empty_drop (n : Nat) : emptyS (Un.drop n).sp = decide (n = 0) := by
 unfold emptyS Un.sp
 have : (⟨#[]⟩ : ByteArray).toList = [] := by rw [ByteArray.toList_eq]
 simp [this]
theorem empty_put (l : List Int) : emptyS (Un.put l).sp = decide (l = []) := by
 unfold emptyS Un.sp
 have := encT_none l
 by_cases h : l = [] <;> simp [h, this]
 rw [ByteArray.toList_eq, encT_nil]
theorem join_keep (n m : Nat) (h : n + m ≤ 4611686018427387904) : joinS (Un.keep n).sp (Un.keep m).sp = (Un.keep (n + m)).sp := by
 unfold joinS Un.sp
 simp only [bb_none]
 rw [w64 (by omega) (by omega)]
 congr 1
theorem join_drop (n m : Nat) (h : n + m ≤ 4611686018427387904) : joinS (Un.drop n).sp (Un.drop m).sp = (Un.drop (n + m)).sp := by
 unfold joinS Un.sp
 simp only [bb_none]
 rw [w64 (by omega) (by omega)]
 congr 1
theorem join_put (a b : List Int) : joinS (Un.put a).sp (Un.put b).sp = (Un.put (a ++ b)).sp := by
 unfold joinS Un.sp
 simp only
 rw [encT_append]
 have : wrap64 (0 + 0) = 0 := by unfold wrap64; rfl
 rw [this]
theorem norm_ex : ∀ us : List Un, (us.map Un.cin).sum ≤ 4611686018427387904 → norm (us.map Un.sp) = (canon (exU us)).map Un.sp
 | [], _ => rfl
 | u :: us, h => by
  simp only [List.map_cons, List.sum_cons] at h
  have ih := norm_ex us (by omega)
  have hc : ((canon (exU us)).map Un.cin).sum = (us.map Un.cin).sum := by rw [← cinU_ex, ex_canon, cinU_ex]
  rw [List.map_cons, norm_cons, ih, exU_cons, canon_un]
  generalize canon (exU us) = c at hc
  cases u with
  | keep n =>
   rw [empty_keep]
   cases n with
   | zero => rfl
   | succ n =>
    rw [if_neg (by simp)]
    rcases c with _ | ⟨v, r⟩
    ·rfl
    ·cases v with
     | keep m =>
      simp only [List.map_cons, List.sum_cons, Un.cin] at hc h
      have := join_keep (n + 1) m (by omega)
      simp only [consUn, List.map_cons]
      rw [if_pos (by rfl), this]
     | put m => simp only [consUn, List.map_cons]; rw [if_neg (by simp [Un.sp])]
     | drop m => simp only [consUn, List.map_cons]; rw [if_neg (by simp [Un.sp])]
  | drop n =>
   rw [empty_drop]
   cases n with
   | zero => rfl
   | succ n =>
    rw [if_neg (by simp)]
    rcases c with _ | ⟨v, r⟩
    ·rfl
    ·cases v with
     | drop m =>
      simp only [List.map_cons, List.sum_cons, Un.cin] at hc h
      have := join_drop (n + 1) m (by omega)
      simp only [consUn, List.map_cons]
      rw [if_pos (by rfl), this]
     | put m => simp only [consUn, List.map_cons]; rw [if_neg (by simp [Un.sp])]
     | keep m => simp only [consUn, List.map_cons]; rw [if_neg (by simp [Un.sp])]
  | put l =>
   rw [empty_put]
   cases l with
   | nil => rfl
   | cons a l =>
    rw [if_neg (by simp)]
    rcases c with _ | ⟨v, r⟩
    ·rfl
    ·cases v with
     | put m =>
      have := join_put (a :: l) m
      simp only [consUn, List.map_cons]
      rw [if_pos (by rfl), this]
     | keep m => simp only [consUn, List.map_cons]; rw [if_neg (by simp [Un.sp])]
     | drop m => simp only [consUn, List.map_cons]; rw [if_neg (by simp [Un.sp])]
end Go.Proofs.YtekjfodfedpioaaDoor.F
end
section
namespace Go.Proofs.YtekjfodfedpioaaDoor.F
open Go.RowKit Go.Proofs.YtekjfodfedpioaaDoorW.PrintWords Go.Proofs.YtekjfodfedpioaaDoorW.PrintLast Go.Proofs.YtekjfodfedpioaaDoorW.PrintMore
set_option linter.unusedVariables false
set_option linter.unusedSimpArgs false
def preq (q : List Int) : List (List Int) → List (List Int)
 | [] => [q]
 | p :: ps => (q ++ p) :: ps
def gpP : List U → List (List Int)
 | [] => [[]]
 | .p r :: x => preq [r] (gpP x)
 | .k :: x => [] :: gpP x
 | .d :: x => [] :: gpP x
def gpG : List U → List Bool
 | [] => []
 | .p _ :: x => gpG x
 | .k :: x => false :: gpG x
 | .d :: x => true :: gpG x
def ug (g : Bool) : U := if g = true then .d else .k
theorem gpP_ne (x : List U) : gpP x ≠ [] := by
 cases x with
 | nil => simp [gpP]
 | cons u x => cases u <;> simp [gpP, preq] <;> (split <;> simp)
theorem preq_nil {ps : List (List Int)} (h : ps ≠ []) : preq [] ps = ps := by
 cases ps with
 | nil => exact absurd rfl h
 | cons p ps => rfl
theorem preq_preq (a b : List Int) (ps : List (List Int)) : preq a (preq b ps) = preq (a ++ b) ps := by cases ps <;> simp [preq]
theorem preq_length {ps : List (List Int)} (q : List Int) (h : ps ≠ []) : (preq q ps).length = ps.length := by
 cases ps with
 | nil => exact absurd rfl h
 | cons p ps => rfl
theorem gpG_length : ∀ x : List U, (gpG x).length = cinU x
 | [] => rfl
 | .p _ :: x => gpG_length x
 | .k :: x => by simp [gpG, cinU, gpG_length x]
 | .d :: x => by simp [gpG, cinU, gpG_length x]
theorem gpP_length : ∀ x : List U, (gpP x).length = cinU x + 1
 | [] => rfl
 | .p _ :: x => by rw [gpP, preq_length _ (gpP_ne x)]; exact gpP_length x
 | .k :: x => by simp [gpP, cinU, gpP_length x]
 | .d :: x => by simp [gpP, cinU, gpP_length x]
theorem gpP_put (p : List Int) (x : List U) : gpP (p.map .p ++ x) = preq p (gpP x) := by
 induction p with
 | nil => exact (preq_nil (gpP_ne x)).symm
 | cons r p ih => rw [List.map_cons, List.cons_append, gpP, ih, preq_preq]; rfl
theorem gpG_put (p : List Int) (x : List U) : gpG (p.map .p ++ x) = gpG x := by
 induction p with
 | nil => rfl
 | cons r p ih => rw [List.map_cons, List.cons_append, gpG, ih]
theorem gpP_keep : ∀ (n : Nat) (x : List U), gpP (List.replicate n .k ++ x) = List.replicate n [] ++ gpP x
 | 0, x => by simp
 | n + 1, x => by rw [List.replicate_succ, List.cons_append, gpP, gpP_keep n x, List.replicate_succ, List.cons_append]
theorem gpP_drop : ∀ (n : Nat) (x : List U), gpP (List.replicate n .d ++ x) = List.replicate n [] ++ gpP x
 | 0, x => by simp
 | n + 1, x => by rw [List.replicate_succ, List.cons_append, gpP, gpP_drop n x, List.replicate_succ, List.cons_append]
theorem gpG_keep : ∀ (n : Nat) (x : List U), gpG (List.replicate n .k ++ x) = List.replicate n false ++ gpG x
 | 0, x => by simp
 | n + 1, x => by rw [List.replicate_succ, List.cons_append, gpG, gpG_keep n x, List.replicate_succ, List.cons_append]
theorem gpG_drop : ∀ (n : Nat) (x : List U), gpG (List.replicate n .d ++ x) = List.replicate n true ++ gpG x
 | 0, x => by simp
 | n + 1, x => by rw [List.replicate_succ, List.cons_append, gpG, gpG_drop n x, List.replicate_succ, List.cons_append]
end Go.Proofs.YtekjfodfedpioaaDoor.F
end
section
namespace Go.Proofs.YtekjfodfedpioaaDoor.F
open Go.RowKit Go.Proofs.YtekjfodfedpioaaDoorW.PrintWords Go.Proofs.YtekjfodfedpioaaDoorW.PrintLast Go.Proofs.YtekjfodfedpioaaDoorW.PrintMore
set_option linter.unusedVariables false
set_option linter.unusedSimpArgs false
def encL (l : List Int) : List UInt8 := (encB l).map (fun n => UInt8.ofNat n.toNat)
theorem encT_list (l : List Int) : (encT l).data.toList = encL l := by unfold encT encL strOfNums; simp
theorem encL_cons (r : Int) (l : List Int) : encL (r :: l) = (enc1 r).map (fun n => UInt8.ofNat n.toNat) ++ encL l := by unfold encL; rw [encB_cons, List.map_append]
theorem u8n (n : Nat) (h : n < 256) : (UInt8.ofNat n).toNat = n := by simp [UInt8.toNat_ofNat']; omega
theorem enc1_nat (m : Nat) : (enc1 (m : Int)).map (fun n => UInt8.ofNat n.toNat) =
  if m < 128 then [UInt8.ofNat m] else if m < 2048 then [UInt8.ofNat (192 + m / 64), UInt8.ofNat (128 + m % 64)]
  else if m < 65536 then [UInt8.ofNat (224 + m / 4096), UInt8.ofNat (128 + m / 64 % 64), UInt8.ofNat (128 + m % 64)]
  else [UInt8.ofNat (240 + m / 262144), UInt8.ofNat (128 + m / 4096 % 64), UInt8.ofNat (128 + m / 64 % 64), UInt8.ofNat (128 + m % 64)] := by
 unfold enc1
 by_cases h1 : m < 128
 ·rw [if_pos h1, if_pos (by omega)]; simp
 ·rw [if_neg h1, if_neg (by omega)]
  by_cases h2 : m < 2048
  ·rw [if_pos h2, if_pos (by omega)]
   simp only [List.map_cons, List.map_nil]
   rw [show (192 + (m : Int) / 64).toNat = 192 + m / 64 by omega, show (128 + (m : Int) % 64).toNat = 128 + m % 64 by omega]
  ·rw [if_neg h2, if_neg (by omega)]
   by_cases h3 : m < 65536
   ·rw [if_pos h3, if_pos (by omega)]
    simp only [List.map_cons, List.map_nil]
    rw [show (224 + (m : Int) / 4096).toNat = 224 + m / 4096 by omega, show (128 + (m : Int) / 64 % 64).toNat = 128 + m / 64 % 64 by omega, show (128 + (m : Int) % 64).toNat = 128 + m % 64 by omega]
   ·rw [if_neg h3, if_neg (by omega)]
    simp only [List.map_cons, List.map_nil]
    rw [show (240 + (m : Int) / 262144).toNat = 240 + m / 262144 by omega, show (128 + (m : Int) / 4096 % 64).toNat = 128 + m / 4096 % 64 by omega, show (128 + (m : Int) / 64 % 64).toNat = 128 + m / 64 % 64 by omega, show (128 + (m : Int) % 64).toNat = 128 + m % 64 by omega]
theorem decode1 (m n : Nat) (b1 b2 b3 : Nat) (h : m < 128) : Lib.decodeN n m b1 b2 b3 = (m, 1) := by unfold Lib.decodeN; rw [if_pos h]
theorem decode2 (m n : Nat) (b2 b3 : Nat) (h : ¬ m < 128) (h2 : m < 2048) (hn : 2 ≤ n) : Lib.decodeN n (192 + m / 64) (128 + m % 64) b2 b3 = (m, 2) := by
 unfold Lib.decodeN
 rw [if_neg (by omega), if_pos ⟨by omega, by omega, by omega⟩, if_pos (by omega)]
 congr 1
 omega
theorem decode3 (m n : Nat) (b3 : Nat) (h2 : ¬ m < 2048) (h3 : m < 65536) (hv : m < 55296 ∨ 57344 ≤ m) (hn : 3 ≤ n) : Lib.decodeN n (224 + m / 4096) (128 + m / 64 % 64) (128 + m % 64) b3 = (m, 3) := by
 unfold Lib.decodeN
 have e : (224 + m / 4096) % 16 * 4096 + (128 + m / 64 % 64) % 64 * 64 + (128 + m % 64) % 64 = m := by omega
 rw [if_neg (by omega), if_neg (by omega), if_pos ⟨by omega, ⟨by omega, by omega⟩, by omega, by omega⟩, e, if_pos (by omega)]
theorem decode4 (m n : Nat) (h3 : ¬ m < 65536) (hv : m ≤ 1114111) (hn : 4 ≤ n) : Lib.decodeN n (240 + m / 262144) (128 + m / 4096 % 64) (128 + m / 64 % 64) (128 + m % 64) = (m, 4) := by
 unfold Lib.decodeN
 have e : (240 + m / 262144) % 8 * 262144 + (128 + m / 4096 % 64) % 64 * 4096 + (128 + m / 64 % 64) % 64 * 64 + (128 + m % 64) % 64 = m := by omega
 rw [if_neg (by omega), if_neg (by omega), if_neg (by omega), if_pos ⟨by omega, ⟨by omega, by omega⟩, ⟨by omega, by omega⟩, by omega, by omega⟩, e, if_pos (by omega)]
theorem decodeL_enc (r : Int) (h : isRune r) (rest : List UInt8) : Lib.decodeL ((enc1 r).map (fun n => UInt8.ofNat n.toNat) ++ rest) = (r.toNat, (enc1 r).length) := by
 have hr : ∃ m : Nat, r = (m : Int) := ⟨r.toNat, by unfold isRune at h; omega⟩
 obtain ⟨m, rfl⟩ := hr
 have hv : m < 55296 ∨ (57344 ≤ m ∧ m ≤ 1114111) := by unfold isRune at h; omega
 have hlen : (enc1 (m : Int)).length = if m < 128 then 1 else if m < 2048 then 2 else if m < 65536 then 3 else 4 := by
  have := congrArg List.length (enc1_nat m)
  rw [List.length_map] at this
  rw [this]
  split
  ·rfl
  ·split
   ·rfl
   ·split <;> rfl
 rw [enc1_nat m, hlen, Lib.decodeL_N, Int.toNat_natCast]
 by_cases h1 : m < 128
 ·simp only [if_pos h1]
  have := decode1 m (1 + rest.length) (((UInt8.ofNat m :: rest).getD 1 0).toNat) (((UInt8.ofNat m :: rest).getD 2 0).toNat) (((UInt8.ofNat m :: rest).getD 3 0).toNat) h1
  simp only [List.cons_append, List.nil_append, List.length_cons, List.getD_cons_zero, u8n m (by omega)]
  exact decode1 _ _ _ _ _ h1
 ·simp only [if_neg h1]
  by_cases h2 : m < 2048
  ·simp only [if_pos h2, List.cons_append, List.nil_append, List.length_cons, List.getD_cons_zero, List.getD_cons_succ, u8n (192 + m / 64) (by omega), u8n (128 + m % 64) (by omega)]
   exact decode2 _ _ _ _ h1 h2 (by omega)
  ·simp only [if_neg h2]
   by_cases h3 : m < 65536
   ·simp only [if_pos h3, List.cons_append, List.nil_append, List.length_cons, List.getD_cons_zero, List.getD_cons_succ, u8n (224 + m / 4096) (by omega), u8n (128 + m / 64 % 64) (by omega), u8n (128 + m % 64) (by omega)]
    exact decode3 _ _ _ h2 h3 (by omega) (by omega)
   ·simp only [if_neg h3, List.cons_append, List.nil_append, List.length_cons, List.getD_cons_zero, List.getD_cons_succ, u8n (240 + m / 262144) (by omega), u8n (128 + m / 4096 % 64) (by omega), u8n (128 + m / 64 % 64) (by omega), u8n (128 + m % 64) (by omega)]
    exact decode4 _ _ h3 (by omega) (by omega)
def Runes (l : List Int) : Prop := ∀ r ∈ l, isRune r
theorem Runes.cons {r : Int} {l : List Int} (h : Runes (r :: l)) : isRune r ∧ Runes l := ⟨h r (by simp), fun x hx => h x (by simp [hx])⟩
theorem Runes.append {a b : List Int} (ha : Runes a) (hb : Runes b) : Runes (a ++ b) := fun x hx => (List.mem_append.1 hx).elim (ha x) (hb x)
theorem Runes.take {a : List Int} (h : Runes a) (n : Nat) : Runes (a.take n) := fun x hx => h x (List.mem_of_mem_take hx)
theorem Runes.drop {a : List Int} (h : Runes a) (n : Nat) : Runes (a.drop n) := fun x hx => h x (List.mem_of_mem_drop hx)
theorem Runes.nil : Runes [] := fun x hx => by cases hx
theorem size_none : (⟨#[]⟩ : ByteArray).size = 0 := rfl
theorem encL_ne (r : Int) (l : List Int) : encL (r :: l) ≠ [] := by
 have := enc1_length r
 intro h
 have h2 := congrArg List.length h
 rw [encL_cons, List.length_append, List.length_map, List.length_nil] at h2
 omega
theorem drop_enc (r : Int) (l : List Int) : (encL (r :: l)).drop (enc1 r).length = encL l := by
 rw [encL_cons, List.drop_left' (by simp)]
theorem validD_enc : ∀ (l : List Int), Runes l → Lib.validD (encL l) = true
 | [], _ => rfl
 | r :: l, h => by
  obtain ⟨h1, h2⟩ := h.cons
  rw [Lib.validD_step _ (encL_ne r l)]
  have hd : Lib.decodeL (encL (r :: l)) = (r.toNat, (enc1 r).length) := by rw [encL_cons]; exact decodeL_enc r h1 _
  rw [hd, drop_enc, if_neg ?_]
  ·exact validD_enc l h2
  ·rintro ⟨e1, e2⟩
   have e1 : r.toNat = 65533 := e1
   have e2 : (enc1 r).length = 1 := e2
   have hr : r = 65533 := by unfold isRune at h1; omega
   subst hr
   simp [enc1] at e2
theorem decode_at_enc (a : List Int) (r : Int) (b : List Int) (h : isRune r) : Utf8.decode (encT (a ++ r :: b)) (encT a).size = (r.toNat, (enc1 r).length) := by
 have hd : (encT (a ++ r :: b)).data.toList.drop (encT a).size = encL (r :: b) := by
  rw [encT_list]
  unfold encL
  rw [encB_append, List.map_append, List.drop_left']
  rw [List.length_map]
  unfold encT
  rw [strOfNums_size]
 rw [← Lib.decodeL_drop, hd, encL_cons]
 exact decodeL_enc r h _
theorem encT_snoc_size (a : List Int) (r : Int) : (encT (a ++ [r])).size = (encT a).size + (enc1 r).length := by
 unfold encT
 rw [strOfNums_size, strOfNums_size, encB_append, List.length_append]
 simp [encB]
theorem encT_lt (a : List Int) (r : Int) (b : List Int) : (encT a).size < (encT (a ++ r :: b)).size := by
 have := (enc1_length r).1
 unfold encT
 rw [strOfNums_size, strOfNums_size, encB_append, List.length_append, encB_cons, List.length_append]
 omega
theorem runeCount_from : ∀ (b a : List Int) (n : Nat), Runes b → b.length ≤ n → Lib.runeCountFrom (encT (a ++ b)) n (encT a).size = b.length
 | [], a, n, h, hn => by
  rw [Lib.runeCountFrom_end _ _ _ (by simp)]
  rfl
 | r :: b, a, 0, h, hn => by simp at hn
 | r :: b, a, n + 1, h, hn => by
  obtain ⟨h1, h2⟩ := h.cons
  rw [Lib.runeCountFrom, if_pos (encT_lt a r b), decode_at_enc a r b h1]
  have := runeCount_from b (a ++ [r]) n h2 (by simp at hn; omega)
  rw [encT_snoc_size, List.append_assoc, List.singleton_append] at this
  show 1 + Lib.runeCountFrom _ n ((encT a).size + (enc1 r).length) = _
  rw [this, List.length_cons]
  omega
theorem runeCount_enc (l : List Int) (h : Runes l) : Lib.runeCount (encT l) = l.length := by
 have := runeCount_from l [] (encT l).size h (encT_size l).1
 simpa [Lib.runeCount, encT_nil, size_none] using this
theorem runesL_from : ∀ (b a : List Int) (n : Nat), Runes b → b.length ≤ n → runesL (encT (a ++ b)) n (encT a).size = b
 | [], a, 0, h, hn => rfl
 | [], a, n + 1, h, hn => by
  rw [runesL, if_neg (by simp)]
 | r :: b, a, 0, h, hn => by simp at hn
 | r :: b, a, n + 1, h, hn => by
  obtain ⟨h1, h2⟩ := h.cons
  rw [runesL, if_pos (encT_lt a r b), decode_at_enc a r b h1]
  have := runesL_from b (a ++ [r]) n h2 (by simp at hn; omega)
  rw [encT_snoc_size, List.append_assoc, List.singleton_append] at this
  show ((r.toNat : Nat) : Int) :: runesL _ n ((encT a).size + (enc1 r).length) = _
  rw [this]
  congr 1
  unfold isRune at h1
  omega
theorem runesL_enc (l : List Int) (h : Runes l) : runesL (encT l) (encT l).size 0 = l := by
 have := runesL_from l [] (encT l).size h (encT_size l).1
 simpa [encT_nil, size_none] using this
theorem runeAt_from : ∀ (b c a : List Int), Runes b → runeAt (encT (a ++ (b ++ c))) b.length (encT a).size = (encT (a ++ b)).size
 | [], c, a, h => by simp [runeAt]
 | r :: b, c, a, h => by
  obtain ⟨h1, h2⟩ := h.cons
  rw [List.length_cons, runeAt, List.cons_append, decode_at_enc a r (b ++ c) h1]
  have := runeAt_from b c (a ++ [r]) h2
  rw [encT_snoc_size, List.append_assoc, List.singleton_append, List.append_assoc, List.singleton_append] at this
  exact this
theorem runeAt_enc (l : List Int) (k : Nat) (h : Runes l) (hk : k ≤ l.length) : runeAt (encT l) k 0 = (encT (l.take k)).size := by
 have := runeAt_from (l.take k) (l.drop k) [] (h.take k)
 simpa [encT_nil, size_none, List.length_take, Nat.min_eq_left hk] using this
theorem encode_nat (r : Int) (h : isRune r) : Utf8.encode r = strOfNums (enc1 r) := by
 have hv : Utf8.valid r = true := by
  unfold isRune at h
  unfold Utf8.valid
  simp
  omega
 obtain ⟨m, rfl⟩ : ∃ m : Nat, r = (m : Int) := ⟨r.toNat, by unfold isRune at h; omega⟩
 have he : strOfNums (enc1 (m : Int)) = ⟨((enc1 (m : Int)).map (fun n => UInt8.ofNat n.toNat)).toArray⟩ := rfl
 rw [he, enc1_nat m]
 unfold Utf8.encode
 simp only [hv, if_true, Int.toNat_natCast]
 by_cases h1 : m < 128
 ·simp only [if_pos h1]
 ·simp only [if_neg h1]
  by_cases h2 : m < 2048
  ·simp only [if_pos h2]
  ·simp only [if_neg h2]
   by_cases h3 : m < 65536
   ·simp only [if_pos h3]
   ·simp only [if_neg h3]
theorem runesBytes_from : ∀ (l : List Int) (s : ByteArray), Runes l → l.foldl (fun r n => r ++ Utf8.encode n) s = s ++ encT l
 | [], s, h => by
  show s = s ++ encT []
  rw [encT_nil]
  apply ByteArray.ext
  simp [ByteArray.data_append]
 | r :: l, s, h => by
  obtain ⟨h1, h2⟩ := h.cons
  rw [List.foldl_cons, runesBytes_from l _ h2, encode_nat r h1]
  have : encT (r :: l) = strOfNums (enc1 r) ++ encT l := by
   unfold encT
   rw [encB_cons, strOfNums_append]
  rw [this]
  apply ByteArray.ext
  simp [ByteArray.data_append]
theorem runesBytes_enc (l : List Int) (h : Runes l) : runesBytes l = encT l := by
 unfold runesBytes
 rw [runesBytes_from l _ h]
 apply ByteArray.ext
 simp [ByteArray.data_append]
theorem big_enc {l : List Int} (h : l.length ≤ 1099511627776) : (encT l).size ≤ 4398046511104 := by
 have := (encT_size l).2
 omega
theorem validStr_enc (l : List Int) (h : Runes l) (hl : l.length ≤ 1099511627776) : points_Valid.f (encT l) = some true := by
 have := big_enc hl
 exact valid_some (by omega) (by rw [encT_list]; exact validD_enc l h)
theorem count_enc (l : List Int) (h : Runes l) (hl : l.length ≤ 1099511627776) : points_Count.f (encT l) = some (l.length : Int) := by
 have := big_enc hl
 unfold points_Count.f
 rw [if_pos (by omega), encT_list, validD_enc l h, if_pos rfl, runeCount_enc l h]
theorem strRunes_enc (l : List Int) (h : Runes l) (hl : l.length ≤ 1099511627776) : str_runes.f (encT l) = some l := by
 have := big_enc hl
 unfold str_runes.f
 rw [if_pos (by omega), runesL_enc l h]
theorem extract_enc (a b c : List Int) : (encT (a ++ (b ++ c))).extract (encT a).size (encT (a ++ b)).size = encT b := by
 apply ByteArray.ext
 rw [ByteArray.data_extract]
 apply Array.ext'
 rw [Array.toList_extract, encT_list, encT_list]
 have h1 : (encT a).size = (encL a).length := by rw [← encT_list, data_length]
 have h2 : (encT (a ++ b)).size = (encL (a ++ b)).length := by rw [← encT_list, data_length]
 rw [h1, h2]
 unfold encL
 rw [encB_append, encB_append, encB_append, List.map_append, List.map_append, List.map_append, List.length_append]
 simp [List.extract_eq_take_drop]
theorem cut_enc (l : List Int) (h : Runes l) (hl : l.length ≤ 1099511627776) (a b : Nat) (hab : a ≤ b) (hb : b ≤ l.length) : points_Cut.f (encT l) (a : Int) (b : Int) = some (encT ((l.take b).drop a), 0) := by
 have hbig := big_enc hl
 have e : l = l.take a ++ ((l.take b).drop a ++ l.drop b) := by
  rw [← List.append_assoc]
  have h1 : l.take a ++ (l.take b).drop a = l.take b := by
   have := List.take_append_drop a (l.take b)
   rw [List.take_take, Nat.min_eq_left hab] at this
   exact this
  rw [h1, List.take_append_drop]
 have e2 : l.take b = l.take a ++ (l.take b).drop a := by
  have := List.take_append_drop a (l.take b)
  rw [List.take_take, Nat.min_eq_left hab] at this
  exact this.symm
 have hx := extract_enc (l.take a) ((l.take b).drop a) (l.drop b)
 rw [← e, ← e2] at hx
 have s1 : (encT (l.take a)).size ≤ (encT (l.take b)).size := by
  rw [e2]
  unfold encT
  rw [strOfNums_size, strOfNums_size, encB_append, List.length_append]
  omega
 have s2 : (encT (l.take b)).size ≤ (encT l).size := by
  have := List.take_append_drop b l
  conv => rhs; rw [← this]
  unfold encT
  rw [strOfNums_size, strOfNums_size, encB_append, List.length_append]
  omega
 unfold points_Cut.f
 rw [if_pos (by omega), encT_list, validD_enc l h, if_pos rfl, if_neg (by omega), if_neg (by omega), runeCount_enc l h, if_neg (by omega), Int.toNat_natCast, Int.toNat_natCast, runeAt_enc l a h (by omega), runeAt_enc l b h hb, if_pos ⟨s1, s2⟩, hx]
end Go.Proofs.YtekjfodfedpioaaDoor.F
end
section
namespace Go.Proofs.YtekjfodfedpioaaDoor.F
open Go.RowKit Go.Proofs.YtekjfodfedpioaaDoorW.PrintWords Go.Proofs.YtekjfodfedpioaaDoorW.PrintLast Go.Proofs.YtekjfodfedpioaaDoorW.PrintMore
set_option linter.unusedVariables false
set_option linter.unusedSimpArgs false
def Un.ok : Un → Prop
 | .put l => Runes l
 | _ => True
structure Ok (us : List Un) : Prop where
 ok : ∀ u ∈ us, u.ok
 len : us.length ≤ 2097152
 cin : (us.map Un.cin).sum ≤ 1048576
 cout : (us.map Un.cout).sum ≤ 1099511627776
theorem Ok.cout_mem {us : List Un} (h : Ok us) {u : Un} (hu : u ∈ us) : u.cout ≤ 1099511627776 := by
 have h1 := h.cout
 have : u.cout ≤ (us.map Un.cout).sum := by
  clear h1 h
  induction us with
  | nil => cases hu
  | cons v us ih =>
   rw [List.map_cons, List.sum_cons]
   rcases List.mem_cons.1 hu with rfl | hu
   ·omega
   ·have := ih hu; omega
 omega
theorem Ok.tail {u : Un} {us : List Un} (h : Ok (u :: us)) : Ok us := by
 have h1 := h.len
 have h2 := h.cin
 have h3 := h.cout
 simp only [List.map_cons, List.sum_cons, List.length_cons] at h1 h2 h3
 exact ⟨fun v hv => h.ok v (by simp [hv]), by omega, by omega, by omega⟩
theorem none_valid : points_Valid.f ⟨#[]⟩ = some true := validStr_enc [] Runes.nil (by simp)
theorem spanMay_keep (n : Nat) (k3 : Int) (hk : k3 = 1 ∨ k3 = 3) (h : n ≤ 1048576) : Ev (fun k => span_May.f k k3 (n : Int) ⟨#[]⟩) 0 := by
 have hv := none_valid
 have hn : (⟨#[]⟩ : ByteArray).toList = [] := by rw [ByteArray.toList_eq]
 have hd : decide ((n : Int) > 1048576) = false := by simp; omega
 have j2 : Ev (fun k => span_May.j2 k false k3 (n : Int) ⟨#[]⟩) 0 := by
  refine Ev.step (f := fun _ => some 0) (fun k => ?_) (Ev.now _)
  rw [span_May.j2, if_neg (by simp), hv]
  rfl
 have j1 : ∀ b, Ev (fun k => span_May.j1 k false k3 (n : Int) ⟨#[]⟩ true b) 0 := by
  intro b
  refine Ev.step (f := fun k => span_May.j2 k false k3 (n : Int) ⟨#[]⟩) (fun k => ?_) j2
  rw [span_May.j1, if_neg (by simp), if_pos rfl, hn]
  rfl
 have j0 : ∀ b, Ev (fun k => span_May.j0 k false k3 (n : Int) ⟨#[]⟩ true b) 0 := by
  intro b
  refine Ev.step (f := fun k => span_May.j1 k false k3 (n : Int) ⟨#[]⟩ true b) (fun k => ?_) (j1 b)
  rw [span_May.j0, if_neg (by simp), if_pos rfl]
 have hso : ∃ b, span_of.f k3 (n : Int) ⟨#[]⟩ = some (true, b, true) := by
  rcases hk with rfl | rfl
  ·exact ⟨true, rfl⟩
  ·exact ⟨false, rfl⟩
 obtain ⟨b, hso⟩ := hso
 unfold span_May.f
 refine ev_some hso (ev_if_pos rfl (ev_if_pos rfl (ev_if_neg (by omega) ?_)))
 rw [hd]
 exact j0 b
theorem spanMay_put (l : List Int) (hl : Runes l) (h : l.length ≤ 1099511627776) : Ev (fun k => span_May.f k 2 0 (encT l)) 0 := by
 have hv := validStr_enc l hl h
 have j2 : Ev (fun k => span_May.j2 k false 2 0 (encT l)) 0 := by
  refine Ev.step (f := fun _ => some 0) (fun k => ?_) (Ev.now _)
  rw [span_May.j2, if_neg (by simp), hv]
  rfl
 have j1 : Ev (fun k => span_May.j1 k false 2 0 (encT l) false false) 0 := by
  refine Ev.step (f := fun k => span_May.j2 k false 2 0 (encT l)) (fun k => ?_) j2
  rw [span_May.j1, if_neg (by simp), if_neg (by simp)]
 have j0 : Ev (fun k => span_May.j0 k false 2 0 (encT l) false false) 0 := by
  refine Ev.step (f := fun k => span_May.j1 k false 2 0 (encT l) false false) (fun k => ?_) j1
  rw [span_May.j0, if_neg (by simp), if_neg (by simp)]
  rfl
 unfold span_May.f
 exact ev_some (show span_of.f 2 0 (encT l) = some (false, false, true) from rfl) (ev_if_pos rfl (ev_if_neg (by simp) j0))
theorem spanMay_is (u : Un) (h : u.ok) (h1 : u.cin ≤ 1048576) (h2 : u.cout ≤ 1099511627776) : Ev (fun k => span_May.f k u.sp.f0 u.sp.f1 u.sp.f2) 0 := by
 cases u with
 | keep n => exact spanMay_keep n 1 (.inl rfl) h1
 | put l => exact spanMay_put l h h2
 | drop n => exact spanMay_keep n 3 (.inr rfl) h1
theorem spanIn_is (u : Un) : span_In.f u.sp.f0 u.sp.f1 u.sp.f2 = some (u.cin : Int) := by
 cases u <;> rfl
theorem spanOut_is (u : Un) (h : u.ok) (h2 : u.cout ≤ 1099511627776) : span_Out.f u.sp.f0 u.sp.f1 u.sp.f2 = some (u.cout : Int) := by
 cases u with
 | keep n => rfl
 | put l =>
  unfold span_Out.f
  rw [show span_of.f (Un.put l).sp.f0 (Un.put l).sp.f1 (Un.put l).sp.f2 = some (false, false, true) from rfl, Option.bind_some, if_neg (by simp), if_pos (show (Un.put l).sp.f0 = 2 from rfl)]
  rw [show (Un.put l).sp.f2 = encT l from rfl, count_enc l h h2, Option.bind_some]
  unfold mx
  rw [show (Un.put l).cout = l.length from rfl]
  congr 1
 | drop n => rfl
theorem rowSum_loop (l : List Un) (hl : l.length ≤ 2097152) (hc : (l.map Un.cin).sum ≤ 1048576) : ∀ (r pre : List Un), l = pre ++ r →
  Ev (fun k => op_row_sum.l0 k (((pre.map Un.cin).sum : Nat) : Int) (l.map Un.sp) ((l.map Un.sp).length : Int) (pre.length : Int)) (((l.map Un.cin).sum : Nat) : Int)
 | [], pre, h => by
  refine Ev.step (f := fun _ => some (((l.map Un.cin).sum : Nat) : Int)) (fun k => ?_) (Ev.now _)
  rw [op_row_sum.l0, if_neg (by subst h; simp)]
  subst h
  simp
 | u :: r, pre, h => by
  have hlt : (pre.length : Int) < ((l.map Un.sp).length : Int) := by subst h; simp <;> omega
  have hll : pre.length + (r.length + 1) = l.length := by subst h; simp
  have hrd : rd_T55 (l.map Un.sp) (pre.length : Int) = u.sp := by
   rw [h, List.map_append, List.map_cons]
   exact rdS_at (by simp)
  have hs : (l.map Un.cin).sum = (pre.map Un.cin).sum + (u.cin + (r.map Un.cin).sum) := by rw [h]; simp
  have ih := rowSum_loop l hl hc r (pre ++ [u]) (by simp [h])
  refine Ev.step (fun k => ?_) ih
  rw [op_row_sum.l0, if_pos hlt, if_pos (by omega), if_pos hlt, hrd, spanIn_is, Option.bind_some, w64_succ _ (by omega), w64 (by omega) (by omega)]
  simp
theorem opIn_is {us : List Un} (h : Ok us) : Ev (fun k => op_In.f k (us.map Un.sp)) (((us.map Un.cin).sum : Nat) : Int) := by
 unfold op_In.f op_row_sum.f
 have := rowSum_loop us h.len h.cin us [] rfl
 exact Ev.bind (by simpa using this) (Ev.now _)
theorem rowSumOut_loop (l : List Un) (hl : Ok l) : ∀ (r pre : List Un), l = pre ++ r →
  Ev (fun k => op_row_sum_Out.l0 k (((pre.map Un.cout).sum : Nat) : Int) (l.map Un.sp) ((l.map Un.sp).length : Int) (pre.length : Int)) (((l.map Un.cout).sum : Nat) : Int)
 | [], pre, h => by
  refine Ev.step (f := fun _ => some (((l.map Un.cout).sum : Nat) : Int)) (fun k => ?_) (Ev.now _)
  rw [op_row_sum_Out.l0, if_neg (by subst h; simp)]
  subst h
  simp
 | u :: r, pre, h => by
  have hlt : (pre.length : Int) < ((l.map Un.sp).length : Int) := by subst h; simp <;> omega
  have hll : pre.length + (r.length + 1) = l.length := by subst h; simp
  have hle := hl.len
  have hco := hl.cout
  have hrd : rd_T55 (l.map Un.sp) (pre.length : Int) = u.sp := by
   rw [h, List.map_append, List.map_cons]
   exact rdS_at (by simp)
  have hs : (l.map Un.cout).sum = (pre.map Un.cout).sum + (u.cout + (r.map Un.cout).sum) := by rw [h]; simp
  have ih := rowSumOut_loop l hl r (pre ++ [u]) (by simp [h])
  refine Ev.step (fun k => ?_) ih
  rw [op_row_sum_Out.l0, if_pos hlt, if_pos (by omega), if_pos hlt, hrd, spanOut_is u (hl.ok u (by rw [h]; simp)) (by omega), Option.bind_some, w64_succ _ (by omega), w64 (by omega) (by omega)]
  simp
theorem opOut_is {us : List Un} (h : Ok us) : Ev (fun k => op_Out.f k (us.map Un.sp)) (((us.map Un.cout).sum : Nat) : Int) := by
 unfold op_Out.f op_row_sum_Out.f
 have := rowSumOut_loop us h us [] rfl
 exact Ev.bind (by simpa using this) (Ev.now _)
theorem opMay_loop (l : List Un) (hl : Ok l) : ∀ (r pre : List Un), l = pre ++ r →
  Ev (fun k => op_May.l0 k (l.map Un.sp) (l.map Un.sp) ((l.map Un.sp).length : Int) (pre.length : Int)) 0
 | [], pre, h => by
  have hci := hl.cin
  refine Ev.step (f := fun k => _) (fun k => by rw [op_May.l0, if_neg (by subst h; simp)]) ?_
  refine Ev.bind (opIn_is hl) ?_
  exact ev_if_neg (by omega) (Ev.now 0)
 | u :: r, pre, h => by
  have hlt : (pre.length : Int) < ((l.map Un.sp).length : Int) := by subst h; simp <;> omega
  have hll : pre.length + (r.length + 1) = l.length := by subst h; simp
  have hle := hl.len
  have hco := hl.cout
  have hci := hl.cin
  have hrd : rd_T55 (l.map Un.sp) (pre.length : Int) = u.sp := by
   rw [h, List.map_append, List.map_cons]
   exact rdS_at (by simp)
  have hs : (l.map Un.cout).sum = (pre.map Un.cout).sum + (u.cout + (r.map Un.cout).sum) := by rw [h]; simp
  have hs2 : (l.map Un.cin).sum = (pre.map Un.cin).sum + (u.cin + (r.map Un.cin).sum) := by rw [h]; simp
  have ih := opMay_loop l hl r (pre ++ [u]) (by simp [h])
  refine Ev.step (f := fun k => _) (fun k => by rw [op_May.l0, if_pos hlt, if_pos (by omega), if_pos hlt, hrd, w64_succ _ (by omega)]) ?_
  refine Ev.bind (spanMay_is u (hl.ok u (by rw [h]; simp)) (by omega) (by omega)) (ev_if_pos rfl ?_)
  simpa using ih
theorem opMay_is {us : List Un} (h : Ok us) : Ev (fun k => op_May.f k (us.map Un.sp)) 0 := by
 unfold op_May.f
 exact opMay_loop us h us [] rfl
end Go.Proofs.YtekjfodfedpioaaDoor.F
end
section
namespace Go.Proofs.YtekjfodfedpioaaDoor.F
open Go.RowKit Go.Proofs.YtekjfodfedpioaaDoorW.PrintWords Go.Proofs.YtekjfodfedpioaaDoorW.PrintLast Go.Proofs.YtekjfodfedpioaaDoorW.PrintMore
set_option linter.unusedVariables false
set_option linter.unusedSimpArgs false
def fullU : Un → Bool
 | .keep n => n != 0
 | .put l => l != []
 | .drop n => n != 0
theorem canon_out : ∀ y : List U, ((canon y).map Un.cout).sum = coutU y := fun y => by rw [← coutU_ex, ex_canon]
theorem canon_in : ∀ y : List U, ((canon y).map Un.cin).sum = cinU y := fun y => by rw [← cinU_ex, ex_canon]
theorem consU_length (t : U) (c : List Un) : (consU t c).length ≤ c.length + 1 ∧ c.length ≤ (consU t c).length := by
 rcases c with _ | ⟨v, r⟩
 ·cases t <;> simp [consU]
 ·cases t <;> cases v <;> simp [consU] <;> omega
theorem canon_length : ∀ y : List U, (canon y).length ≤ y.length
 | [] => Nat.le_refl _
 | t :: y => by
  rw [canon_cons]
  have := (consU_length t (canon y)).1
  have := canon_length y
  simp only [List.length_cons]
  omega
theorem length_two : ∀ y : List U, y.length ≤ cinU y + coutU y
 | [] => Nat.zero_le _
 | t :: y => by
  have := length_two y
  cases t <;> simp only [cinU, coutU, List.length_cons] <;> omega
def RunesU (y : List U) : Prop := ∀ r, U.p r ∈ y → isRune r
theorem RunesU.append {a b : List U} (ha : RunesU a) (hb : RunesU b) : RunesU (a ++ b) := fun r h => (List.mem_append.1 h).elim (ha r) (hb r)
theorem RunesU.tail {t : U} {y : List U} (h : RunesU (t :: y)) : RunesU y := fun r hr => h r (by simp [hr])
theorem RunesU.put {l : List Int} (h : Runes l) : RunesU (l.map .p) := by
 intro r hr
 obtain ⟨x, hx, e⟩ := List.mem_map.1 hr
 injection e with e
 rw [← e]
 exact h x hx
theorem runesU_ex : ∀ us : List Un, (∀ u ∈ us, u.ok) → RunesU (exU us)
 | [], _ => fun r h => by cases h
 | u :: us, h => by
  rw [exU_cons]
  refine RunesU.append ?_ (runesU_ex us (fun v hv => h v (by simp [hv])))
  cases u with
  | keep n => intro r hr; have := List.eq_of_mem_replicate hr; cases this
  | put l => exact RunesU.put (h (.put l) (by simp))
  | drop n => intro r hr; have := List.eq_of_mem_replicate hr; cases this
theorem ok_canon : ∀ y : List U, RunesU y → ∀ u ∈ canon y, u.ok
 | [], _, u, hu => by cases hu
 | t :: y, h, u, hu => by
  have ih := ok_canon y h.tail
  rw [canon_cons] at hu
  generalize canon y = c at ih hu
  cases t with
  | k =>
   rcases c with _ | ⟨v, r⟩
   ·simp [consU] at hu; subst hu; trivial
   ·cases v <;> simp [consU] at hu <;> rcases hu with rfl | hu <;> first | trivial | exact ih _ (by simp [hu]) | (rcases hu with rfl | hu <;> exact ih _ (by simp [*]))
  | d =>
   rcases c with _ | ⟨v, r⟩
   ·simp [consU] at hu; subst hu; trivial
   ·cases v <;> simp [consU] at hu <;> rcases hu with rfl | hu <;> first | trivial | exact ih _ (by simp [hu]) | (rcases hu with rfl | hu <;> exact ih _ (by simp [*]))
  | p a =>
   have ha : isRune a := h a (by simp)
   have h1 : Runes [a] := by intro x hx; simp at hx; subst hx; exact ha
   rcases c with _ | ⟨v, r⟩
   ·simp [consU] at hu; subst hu; exact h1
   ·cases v with
    | put m =>
     simp [consU] at hu
     rcases hu with rfl | hu
     ·exact Runes.append h1 (ih (.put m) (by simp))
     ·exact ih _ (by simp [hu])
    | keep n =>
     simp [consU] at hu
     rcases hu with rfl | rfl | hu
     ·exact h1
     ·trivial
     ·exact ih _ (by simp [hu])
    | drop n =>
     simp [consU] at hu
     rcases hu with rfl | rfl | hu
     ·exact h1
     ·trivial
     ·exact ih _ (by simp [hu])
theorem canon_ok {y : List U} (h : RunesU y) (h1 : cinU y ≤ 1048576) (h2 : coutU y ≤ 1048576) : Ok (canon y) := by
 have := canon_length y
 have := length_two y
 exact ⟨ok_canon y h, by omega, by rw [canon_in]; exact h1, by rw [canon_out]; omega⟩
theorem gpP_runes : ∀ x : List U, RunesU x → ∀ p ∈ gpP x, Runes p
 | [], _, p, hp => by simp [gpP] at hp; subst hp; exact Runes.nil
 | .p r :: x, h, p, hp => by
  have ih := gpP_runes x h.tail
  have hne := gpP_ne x
  rw [gpP] at hp
  generalize gpP x = c at *
  rcases c with _ | ⟨a, c⟩
  ·exact absurd rfl hne
  ·simp only [preq] at hp
   rcases List.mem_cons.1 hp with rfl | hp
   ·exact Runes.append (by intro z hz; simp at hz; subst hz; exact h z (by simp)) (ih a (by simp))
   ·exact ih p (by simp [hp])
 | .k :: x, h, p, hp => by
  rw [gpP] at hp
  rcases List.mem_cons.1 hp with rfl | hp
  ·exact Runes.nil
  ·exact gpP_runes x h.tail p hp
 | .d :: x, h, p, hp => by
  rw [gpP] at hp
  rcases List.mem_cons.1 hp with rfl | hp
  ·exact Runes.nil
  ·exact gpP_runes x h.tail p hp
theorem gpP_sum : ∀ x : List U, ((gpP x).map List.length).sum ≤ coutU x
 | [] => Nat.le_refl _
 | .p r :: x => by
  have ih := gpP_sum x
  have hne := gpP_ne x
  rw [gpP, show coutU (U.p r :: x) = coutU x + 1 from rfl]
  generalize gpP x = c at *
  rcases c with _ | ⟨a, c⟩
  ·exact absurd rfl hne
  ·simp [preq] at ih ⊢; omega
 | .k :: x => by have := gpP_sum x; simp [gpP, coutU]; omega
 | .d :: x => by have := gpP_sum x; simp [gpP, coutU]; omega
end Go.Proofs.YtekjfodfedpioaaDoor.F
end
section
namespace Go.Proofs.YtekjfodfedpioaaDoor.F
open Go.RowKit Go.Proofs.YtekjfodfedpioaaDoorW.PrintWords Go.Proofs.YtekjfodfedpioaaDoorW.PrintLast Go.Proofs.YtekjfodfedpioaaDoorW.PrintMore
set_option linter.unusedVariables false
set_option linter.unusedSimpArgs false
def compU : List U → List U → List U
 | x, .p r :: y => .p r :: compU x y
 | .d :: x, [] => .d :: compU x []
 | .d :: x, .k :: y => .d :: compU x (.k :: y)
 | .d :: x, .d :: y => .d :: compU x (.d :: y)
 | .p r :: x, .k :: y => .p r :: compU x y
 | .p _ :: x, .d :: y => compU x y
 | .k :: x, .k :: y => .k :: compU x y
 | .k :: x, .d :: y => .d :: compU x y
 | [], [] => []
 | [], .k :: _ => []
 | [], .d :: _ => []
 | .k :: _, [] => []
 | .p _ :: _, [] => []
termination_by x y => x.length + y.length
decreasing_by all_goals (simp only [List.length_cons, List.length_nil]; omega)
def noP : List U → Prop
 | .p _ :: _ => False
 | _ => True
theorem comp_p (x : List U) (r : Int) (y : List U) : compU x (.p r :: y) = .p r :: compU x y := by
 rcases x with _ | ⟨u, x⟩
 ·rw [compU]
 ·cases u <;> rw [compU]
theorem comp_d (x y : List U) (h : noP y) : compU (.d :: x) y = .d :: compU x y := by
 rcases y with _ | ⟨v, y⟩
 ·rw [compU]
 ·cases v with
  | p r => exact h.elim
  | k => rw [compU]
  | d => rw [compU]
theorem comp_nil : compU [] [] = [] := by rw [compU]
theorem comp_sizes (x y : List U) (h : coutU x = cinU y) : cinU (compU x y) = cinU x ∧ coutU (compU x y) = coutU y := by
 induction x, y using compU.induct with
 | case1 x r y ih => rw [comp_p]; have := ih h; simp only [cinU, coutU] at *; omega
 | case2 x ih => rw [compU]; have := ih h; simp only [cinU, coutU] at *; omega
 | case3 x y ih => rw [compU]; have := ih h; simp only [cinU, coutU] at *; omega
 | case4 x y ih => rw [compU]; have := ih h; simp only [cinU, coutU] at *; omega
 | case5 r x y ih => rw [compU]; simp only [cinU, coutU] at *; have := ih (by omega); omega
 | case6 r x y ih => rw [compU]; simp only [cinU, coutU] at *; have := ih (by omega); omega
 | case7 x y ih => rw [compU]; simp only [cinU, coutU] at *; have := ih (by omega); omega
 | case8 x y ih => rw [compU]; simp only [cinU, coutU] at *; have := ih (by omega); omega
 | case9 => rw [compU]; exact ⟨rfl, rfl⟩
 | _ => simp [cinU, coutU] at h
theorem comp_puts (l : List Int) (x y : List U) : compU x (l.map .p ++ y) = l.map .p ++ compU x y := by
 induction l with
 | nil => rfl
 | cons r l ih => rw [List.map_cons, List.cons_append, comp_p, ih, List.cons_append]
theorem comp_drops (n : Nat) (x y : List U) (h : noP y) : compU (List.replicate n .d ++ x) y = List.replicate n .d ++ compU x y := by
 induction n with
 | zero => rfl
 | succ n ih => rw [List.replicate_succ, List.cons_append, comp_d _ _ h, ih, List.cons_append]
theorem comp_kk (n : Nat) (x y : List U) : compU (List.replicate n .k ++ x) (List.replicate n .k ++ y) = List.replicate n .k ++ compU x y := by
 induction n with
 | zero => rfl
 | succ n ih => rw [List.replicate_succ, List.cons_append, List.cons_append, compU, ih, List.cons_append]
theorem comp_kd (n : Nat) (x y : List U) : compU (List.replicate n .k ++ x) (List.replicate n .d ++ y) = List.replicate n .d ++ compU x y := by
 induction n with
 | zero => rfl
 | succ n ih => rw [List.replicate_succ, List.replicate_succ, List.cons_append, List.cons_append, compU, ih, List.cons_append]
theorem comp_pk (l : List Int) (x y : List U) : compU (l.map .p ++ x) (List.replicate l.length .k ++ y) = l.map .p ++ compU x y := by
 induction l with
 | nil => rfl
 | cons r l ih => rw [List.map_cons, List.length_cons, List.replicate_succ, List.cons_append, List.cons_append, compU, ih, List.cons_append]
theorem comp_pd (l : List Int) (x y : List U) : compU (l.map .p ++ x) (List.replicate l.length .d ++ y) = compU x y := by
 induction l with
 | nil => rfl
 | cons r l ih => rw [List.map_cons, List.length_cons, List.replicate_succ, List.cons_append, List.cons_append, compU, ih]
theorem RunesU.consP {r : Int} {y : List U} (h : isRune r) (hy : RunesU y) : RunesU (.p r :: y) := by
 intro z hz
 rcases List.mem_cons.1 hz with e | hz
 ·injection e with e; subst e; exact h
 ·exact hy z hz
theorem RunesU.consK {y : List U} (hy : RunesU y) : RunesU (.k :: y) := by
 intro z hz
 rcases List.mem_cons.1 hz with e | hz
 ·cases e
 ·exact hy z hz
theorem RunesU.consD {y : List U} (hy : RunesU y) : RunesU (.d :: y) := by
 intro z hz
 rcases List.mem_cons.1 hz with e | hz
 ·cases e
 ·exact hy z hz
theorem RunesU.nil : RunesU [] := fun z hz => by cases hz
theorem comp_runes (x y : List U) (hx : RunesU x) (hy : RunesU y) : RunesU (compU x y) := by
 induction x, y using compU.induct with
 | case1 x r y ih => rw [comp_p]; exact RunesU.consP (hy r (by simp)) (ih hx hy.tail)
 | case2 x ih => rw [compU]; exact RunesU.consD (ih hx.tail hy)
 | case3 x y ih => rw [compU]; exact RunesU.consD (ih hx.tail hy)
 | case4 x y ih => rw [compU]; exact RunesU.consD (ih hx.tail hy)
 | case5 r x y ih => rw [compU]; exact RunesU.consP (hx r (by simp)) (ih hx.tail hy.tail)
 | case6 r x y ih => rw [compU]; exact ih hx.tail hy.tail
 | case7 x y ih => rw [compU]; exact RunesU.consK (ih hx.tail hy.tail)
 | case8 x y ih => rw [compU]; exact RunesU.consD (ih hx.tail hy.tail)
 | _ => rw [compU]; exact RunesU.nil
def putsU : List U → Nat
 | [] => 0
 | .p _ :: x => putsU x + 1
 | _ :: x => putsU x
end Go.Proofs.YtekjfodfedpioaaDoor.F
end
section
namespace Go.Proofs.YtekjfodfedpioaaDoor.F
open Go.RowKit Go.Proofs.YtekjfodfedpioaaDoorW.PrintWords Go.Proofs.YtekjfodfedpioaaDoorW.PrintLast Go.Proofs.YtekjfodfedpioaaDoorW.PrintMore
set_option linter.unusedVariables false
set_option linter.unusedSimpArgs false
def leastU : List U → Nat → Nat
 | [], _ => 0
 | .p _ :: _, 0 => 0
 | .k :: _, 0 => 0
 | .d :: _, 0 => 0
 | .p _ :: x, t + 1 => leastU x t
 | .k :: x, t + 1 => leastU x t + 1
 | .d :: x, t + 1 => leastU x (t + 1) + 1
theorem leastU_zero (x : List U) : leastU x 0 = 0 := by
 rcases x with _ | ⟨u, x⟩
 ·rfl
 ·cases u <;> rfl
theorem least_puts : ∀ (l : List Int) (x : List U) (t : Nat), leastU (l.map .p ++ x) t = if t ≤ l.length then 0 else leastU x (t - l.length)
 | l, x, 0 => by rw [leastU_zero, if_pos (Nat.zero_le _)]
 | [], x, t + 1 => by rw [if_neg (by simp)]; simp
 | r :: l, x, t + 1 => by
  rw [List.map_cons, List.cons_append, leastU, least_puts l x t, List.length_cons]
  by_cases h : t ≤ l.length
  ·rw [if_pos h, if_pos (by omega)]
  ·rw [if_neg h, if_neg (by omega), show t + 1 - (l.length + 1) = t - l.length by omega]
theorem least_keeps : ∀ (n : Nat) (x : List U) (t : Nat), leastU (List.replicate n .k ++ x) t = if t ≤ n then t else n + leastU x (t - n)
 | n, x, 0 => by rw [leastU_zero, if_pos (Nat.zero_le _)]
 | 0, x, t + 1 => by simp
 | n + 1, x, t + 1 => by
  rw [List.replicate_succ, List.cons_append, leastU, least_keeps n x t]
  by_cases h : t ≤ n
  ·rw [if_pos h, if_pos (by omega)]
  ·rw [if_neg h, if_neg (by omega), show t + 1 - (n + 1) = t - n by omega]; omega
theorem least_drops (n : Nat) (x : List U) (t : Nat) (h : 0 < t) : leastU (List.replicate n .d ++ x) t = n + leastU x t := by
 obtain ⟨t, rfl⟩ : ∃ s, t = s + 1 := ⟨t - 1, by omega⟩
 induction n with
 | zero => simp
 | succ n ih => rw [List.replicate_succ, List.cons_append, leastU, ih]; omega
end Go.Proofs.YtekjfodfedpioaaDoor.F
end
section
namespace Go.Proofs.YtekjfodfedpioaaDoor.F
open Go.RowKit Go.Proofs.YtekjfodfedpioaaDoorW.PrintWords Go.Proofs.YtekjfodfedpioaaDoorW.PrintLast Go.Proofs.YtekjfodfedpioaaDoorW.PrintMore
set_option linter.unusedVariables false
set_option linter.unusedSimpArgs false
theorem split_puts : ∀ X : List U, ∃ (xp : List Int) (rest : List U), X = xp.map U.p ++ rest ∧ (rest = [] ∨ (∃ X', rest = .k :: X') ∨ ∃ X', rest = .d :: X')
 | [] => ⟨[], [], rfl, .inl rfl⟩
 | .k :: X => ⟨[], _, rfl, .inr (.inl ⟨X, rfl⟩)⟩
 | .d :: X => ⟨[], _, rfl, .inr (.inr ⟨X, rfl⟩)⟩
 | .p r :: X => by
  obtain ⟨xp, rest, h, h2⟩ := split_puts X
  exact ⟨r :: xp, rest, by rw [h]; rfl, h2⟩
theorem cinU_puts : ∀ (xp : List Int) (rest : List U), cinU (xp.map U.p ++ rest) = cinU rest
 | [], _ => rfl
 | _ :: xp, rest => cinU_puts xp rest
theorem rdOf_at0 {α : Type} (d x : α) (pre r : List α) : rdOf d (pre ++ x :: r) (pre.length : Int) = x := by
 unfold rdOf
 rw [Int.toNat_natCast, List.getD_eq_getElem?_getD, List.getElem?_append_right (Nat.le_refl _), Nat.sub_self]
 rfl
theorem set_at0 {α : Type} (x y : α) (pre r : List α) : (pre ++ x :: r).set pre.length y = pre ++ y :: r := by
 rw [List.set_append_right _ _ (Nat.le_refl _), Nat.sub_self, List.set_cons_zero]
theorem map_mid0 (L R : List (List Int)) (q : List Int) : (L ++ q :: R).map encT = L.map encT ++ encT q :: R.map encT := by simp
theorem gpP_ug (b : Bool) (X : List U) : gpP (ug b :: X) = [] :: gpP X := by cases b <;> rfl
theorem gpG_ug (b : Bool) (X : List U) : gpG (ug b :: X) = b :: gpG X := by cases b <;> rfl
theorem putsU_ug (b : Bool) (X : List U) : putsU (ug b :: X) = putsU X := by cases b <;> rfl
theorem putsU_puts : ∀ (xp : List Int) (rest : List U), putsU (xp.map U.p ++ rest) = xp.length + putsU rest
 | [], rest => by simp
 | x :: xp, rest => by
  have := putsU_puts xp rest
  rw [List.map_cons, List.cons_append, putsU, this, List.length_cons]
  omega
theorem split_more {X : List U} {c : Nat} (h : cinU X = c + 1) : ∃ (xp : List Int) (b : Bool) (X' : List U), X = xp.map U.p ++ ug b :: X' ∧ cinU X' = c := by
 obtain ⟨xp, rest, rfl, h2⟩ := split_puts X
 rw [cinU_puts] at h
 rcases h2 with rfl | ⟨X', rfl⟩ | ⟨X', rfl⟩
 ·simp [cinU] at h
 ·exact ⟨xp, false, X', rfl, by simpa [cinU] using h⟩
 ·exact ⟨xp, true, X', rfl, by simpa [cinU] using h⟩
end Go.Proofs.YtekjfodfedpioaaDoor.F
end
section
namespace Go.Proofs.YtekjfodfedpioaaDoor.F
open Go.RowKit Go.Proofs.YtekjfodfedpioaaDoorW.PrintWords Go.Proofs.YtekjfodfedpioaaDoorW.PrintLast Go.Proofs.YtekjfodfedpioaaDoorW.PrintMore
set_option linter.unusedVariables false
set_option linter.unusedSimpArgs false
theorem inS_un (u : Un) : inS u.sp = (u.cin : Int) := by unfold inS; rw [spanIn_is]; rfl
theorem outS_un (u : Un) (h : u.ok) (h2 : u.cout ≤ 1099511627776) : outS u.sp = (u.cout : Int) := by unfold outS; rw [spanOut_is u h h2]; rfl
theorem spanIn_some (a b : Int) (c : ByteArray) : (span_In.f a b c).isSome = true := by
 unfold span_In.f span_of.f
 split
 ·rfl
 ·split
  ·rfl
  ·split <;> rfl
theorem stepsOk_un {us : List Un} (h : Ok us) : stepsOk (us.map Un.sp) = true := by
 unfold stepsOk
 rw [List.all_eq_true]
 intro s hs
 obtain ⟨u, hu, rfl⟩ := List.mem_map.1 hs
 rw [spanIn_some, spanOut_is u (h.ok u hu) (h.cout_mem hu)]
 rfl
theorem stepsL_un {u : Un} {us : List Un} (h : Ok (u :: us)) (i o : Nat) (hi : i + u.cin ≤ 4611686018427387904) (ho : o + u.cout ≤ 4611686018427387904) :
  ∃ x : St, stepsL ((u :: us).map Un.sp) (i : Int) (o : Int) = x :: stepsL (us.map Un.sp) ((i + u.cin : Nat) : Int) ((o + u.cout : Nat) : Int) ∧ x.s = u.sp ∧ x.i = (i : Int) ∧ x.o = (o : Int) := by
 have h1 := spanOut_is u (h.ok u (by simp)) (h.cout_mem (by simp))
 have h2 : (span_Out.f u.sp.f0 u.sp.f1 u.sp.f2).isSome = true := by rw [h1]; rfl
 refine ⟨⟨u.sp, i, o, h2⟩, ?_, rfl, rfl, rfl⟩
 rw [List.map_cons, stepsL, dif_pos h2, inS_un, outS_un u (h.ok u (by simp)) (h.cout_mem (by simp)), w64 (by omega) (by omega), w64 (by omega) (by omega)]
 rfl
theorem leastS_is : ∀ (us : List Un) (gap i o : Nat), Ok us → o < gap → gap ≤ o + (us.map Un.cout).sum → i + (us.map Un.cin).sum ≤ 2097152 → o + (us.map Un.cout).sum ≤ 1099511627776 →
  leastS (gap : Int) (stepsL (us.map Un.sp) (i : Int) (o : Int)) = ((i + leastU (exU us) (gap - o) : Nat) : Int)
 | [], gap, i, o, h, hg, hg2, _, _ => by simp at hg2; omega
 | u :: us, gap, i, o, h, hg, hg2, hi, ho => by
  simp only [List.map_cons, List.sum_cons] at hi ho hg2
  obtain ⟨x, e, h1, h2, h3⟩ := stepsL_un h i o (by omega) (by omega)
  have ih := leastS_is us gap (i + u.cin) (o + u.cout) h.tail
  have hov := outS_un u (h.ok u (by simp)) (h.cout_mem (by simp))
  rw [e, leastS, h1, h2, h3, exU_cons, hov, w64 (x := (o : Int) + (u.cout : Int)) (by omega) (by omega)]
  cases u with
  | keep n =>
   rw [show (Un.keep n).ex = List.replicate n .k from rfl, least_keeps]
   rw [show (Un.keep n).cin = n from rfl, show (Un.keep n).cout = n from rfl] at *
   by_cases hc : gap - o ≤ n
   ·rw [if_neg (by omega), if_pos (show (Un.keep n).sp.f0 = 1 from rfl), if_pos hc, w64 (x := (gap : Int) - (o : Int)) (by omega) (by omega)]
    have : mx ((gap : Int) - (o : Int)) 0 = (gap : Int) - (o : Int) := by unfold mx; rw [if_neg (by omega)]
    rw [this, w64 (by omega) (by omega)]
    omega
   ·rw [if_pos (by omega), ih (by omega) (by omega) (by omega) (by omega), if_neg hc, show gap - (o + n) = gap - o - n by omega]
    omega
  | put l =>
   rw [show (Un.put l).ex = l.map .p from rfl, least_puts]
   rw [show (Un.put l).cin = 0 from rfl, show (Un.put l).cout = l.length from rfl] at *
   by_cases hc : gap - o ≤ l.length
   ·rw [if_neg (by omega), if_neg (show ¬ (Un.put l).sp.f0 = 1 by simp [Un.sp]), if_pos hc]
    rfl
   ·rw [if_pos (by omega), ih (by omega) (by omega) (by omega) (by omega), if_neg hc, show gap - (o + l.length) = gap - o - l.length by omega]
    omega
  | drop n =>
   rw [show (Un.drop n).ex = List.replicate n .d from rfl, least_drops _ _ _ (by omega)]
   rw [show (Un.drop n).cin = n from rfl, show (Un.drop n).cout = 0 from rfl] at *
   rw [if_pos (by omega), ih (by omega) (by omega) (by omega) (by omega)]
   simp only [Nat.add_zero]
   omega
theorem leastS_zero (us : List Un) (h : Ok us) : leastS 0 (stepsL (us.map Un.sp) 0 0) = 0 := by
 cases us with
 | nil =>
  have : leastS 0 [⟨⟨0, 0, ⟨#[]⟩⟩, 0, 0, zero_out⟩] = 0 := by
   have hz : outS (⟨0, 0, ⟨#[]⟩⟩ : Sp) = 0 := by simp [outS, span_Out.f, span_of.f]
   show (if wrap64 ((0 : Int) + outS (⟨0, 0, ⟨#[]⟩⟩ : Sp)) < 0 then leastS 0 [] else if (0 : Int) = 1 then _ else (0 : Int)) = 0
   rw [hz, w64 (by omega) (by omega), if_neg (by omega), if_neg (by decide)]
  exact this
 | cons u us =>
  have h1 := h.cin
  have h2 := h.cout
  simp only [List.map_cons, List.sum_cons] at h1 h2
  obtain ⟨x, e, e1, e2, e3⟩ := stepsL_un h 0 0 (by omega) (by omega)
  have hov := outS_un u (h.ok u (by simp)) (h.cout_mem (by simp))
  rw [show ((0 : Nat) : Int) = 0 from rfl] at e e2 e3
  rw [e, leastS, e1, e2, e3, hov, w64 (by omega) (by omega), if_neg (by omega)]
  split
  ·rw [w64 (x := (0 : Int) - 0) (by omega) (by omega), show mx ((0 : Int) - 0) 0 = 0 from rfl, w64 (by omega) (by omega)]
   rfl
  ·rfl
theorem placeLeast_is {us : List Un} (h : Ok us) (g : Nat) (hg : g ≤ (us.map Un.cout).sum) : Ev (fun k => place_Least.f k (us.map Un.sp) (g : Int)) (((leastU (exU us) g : Nat) : Int), 0) := by
 have h1 := h.cin
 have h2 := h.cout
 unfold place_Least.f
 refine ev_if_pos (stepsOk_un h) (Ev.bind (opMay_is h) (ev_if_pos rfl (ev_if_neg (by omega) (Ev.bind (opOut_is h) (ev_if_neg (by omega) ?_)))))
 rcases Nat.eq_zero_or_pos g with rfl | hp
 ·rw [leastU_zero, show ((0 : Nat) : Int) = 0 from rfl, leastS_zero us h]
  exact Ev.now _
 ·have := leastS_is us g 0 0 h (by omega) (by omega) (by omega) (by omega)
  rw [show ((0 : Nat) : Int) = 0 from rfl, Nat.zero_add, Nat.sub_zero] at this
  rw [this]
  exact Ev.now _
end Go.Proofs.YtekjfodfedpioaaDoor.F
end
section
namespace Go.Proofs.YtekjfodfedpioaaDoor.F
open Go.RowKit Go.Proofs.YtekjfodfedpioaaDoorW.PrintWords Go.Proofs.YtekjfodfedpioaaDoorW.PrintLast Go.Proofs.YtekjfodfedpioaaDoorW.PrintMore
set_option linter.unusedVariables false
set_option linter.unusedSimpArgs false
theorem toList_inj {a b : ByteArray} (h : a.toList = b.toList) : a = b := by
 rw [ByteArray.toList_eq, ByteArray.toList_eq] at h
 apply ByteArray.ext
 exact Array.ext' h
end Go.Proofs.YtekjfodfedpioaaDoor.F
end
section
namespace Go.Proofs.YtekjfodfedpioaaDoor.F
open Go.RowKit Go.Proofs.YtekjfodfedpioaaDoorW.PrintWords Go.Proofs.YtekjfodfedpioaaDoorW.PrintLast Go.Proofs.YtekjfodfedpioaaDoorW.PrintMore
set_option linter.unusedVariables false
set_option linter.unusedSimpArgs false
theorem rdB_at (l : List ByteArray) (pre r : List ByteArray) (c : ByteArray) (h : l = pre ++ c :: r) : rdOf ByteArray.empty l (pre.length : Int) = c := by
 subst h
 unfold rdOf
 simp [List.getD_eq_getElem?_getD]
theorem rdG_at (l : List Bool) (pre r : List Bool) (c : Bool) (h : l = pre ++ c :: r) : rdOf false l (pre.length : Int) = c := by
 subst h
 unfold rdOf
 simp [List.getD_eq_getElem?_getD]
theorem same6_l1 (x0 y0 : List ByteArray) (a b : List Bool) (hl : a.length = b.length) (hm : a.length ≤ 4611686018427387904) : ∀ (r q pre pre2 : List Bool), a = pre ++ r → b = pre2 ++ q → pre.length = pre2.length →
  Ev (fun k => epitomeref06_Same.l1 k (pre.length : Int) x0 a y0 b) (decide (r = q))
 | [], q, pre, pre2, h1, h2, h3 => by
  have hq : q = [] := by
   have := congrArg List.length h1
   have := congrArg List.length h2
   simp at *
   exact List.eq_nil_of_length_eq_zero (by omega)
  subst hq
  refine Ev.step (f := fun _ => some true) (fun k => ?_) (by simpa using Ev.now true)
  rw [epitomeref06_Same.l1, if_neg (by subst h1; simp)]
 | t :: r, q, pre, pre2, h1, h2, h3 => by
  have e1 : a.length = pre.length + (r.length + 1) := by rw [h1]; simp
  have e2 : b.length = pre2.length + q.length := by rw [h2]; simp
  rcases q with _ | ⟨u, q⟩
  ·simp at e2; omega
  have ra := rdG_at a pre r t h1
  have rb := rdG_at b pre2 q u h2
  rw [← h3] at rb
  have ih := same6_l1 x0 y0 a b hl hm r q (pre ++ [t]) (pre2 ++ [u]) (by simp [h1]) (by simp [h2]) (by simp [h3])
  by_cases htu : t = u
  ·subst htu
   rw [show decide (t :: r = t :: q) = decide (r = q) by simp]
   refine Ev.step (fun k => ?_) ih
   rw [epitomeref06_Same.l1, if_pos (by omega), if_pos (by omega), if_pos (by omega), ra, rb, if_neg (by simp), w64_succ _ (by omega)]
   simp
  ·rw [show decide (t :: r = u :: q) = false by simp [htu]]
   refine Ev.step (f := fun _ => some false) (fun k => ?_) (Ev.now _)
   rw [epitomeref06_Same.l1, if_pos (by omega), if_pos (by omega), if_pos (by omega), ra, rb, if_pos (by simp [htu])]
theorem same6_l0 (x1 y1 : List Bool) (a b : List ByteArray) (v : Bool) (hl : a.length = b.length) (hm : a.length ≤ 4611686018427387904) (hv : Ev (fun k => epitomeref06_Same.l1 k 0 a x1 b y1) v) : ∀ (r q pre pre2 : List ByteArray), a = pre ++ r → b = pre2 ++ q → pre.length = pre2.length →
  Ev (fun k => epitomeref06_Same.l0 k (pre.length : Int) a x1 b y1) (decide (r = q) && v)
 | [], q, pre, pre2, h1, h2, h3 => by
  have hq : q = [] := by
   have := congrArg List.length h1
   have := congrArg List.length h2
   simp at *
   exact List.eq_nil_of_length_eq_zero (by omega)
  subst hq
  refine Ev.step (fun k => ?_) (by simpa using hv)
  rw [epitomeref06_Same.l0, if_neg (by subst h1; simp)]
 | t :: r, q, pre, pre2, h1, h2, h3 => by
  have e1 : a.length = pre.length + (r.length + 1) := by rw [h1]; simp
  have e2 : b.length = pre2.length + q.length := by rw [h2]; simp
  rcases q with _ | ⟨u, q⟩
  ·simp at e2; omega
  have ra := rdB_at a pre r t h1
  have rb := rdB_at b pre2 q u h2
  rw [← h3] at rb
  have ih := same6_l0 x1 y1 a b v hl hm hv r q (pre ++ [t]) (pre2 ++ [u]) (by simp [h1]) (by simp [h2]) (by simp [h3])
  by_cases htu : t = u
  ·subst htu
   rw [show decide (t :: r = t :: q) = decide (r = q) by simp]
   refine Ev.step (fun k => ?_) ih
   rw [epitomeref06_Same.l0, if_pos (by omega), if_pos (by omega), if_pos (by omega), ra, rb, if_pos rfl, w64_succ _ (by omega)]
   simp
  ·rw [show (decide (t :: r = u :: q) && v) = false by simp [htu]]
   refine Ev.step (f := fun _ => some false) (fun k => ?_) (Ev.now _)
   rw [epitomeref06_Same.l0, if_pos (by omega), if_pos (by omega), if_pos (by omega), ra, rb, if_neg (fun h => htu (toList_inj h))]
theorem same6_is (a b : List ByteArray) (g h : List Bool) (hm : a.length ≤ 4611686018427387904) (hg : g.length ≤ 4611686018427387904) :
  Ev (fun k => epitomeref06_Same.f k a g b h) (decide (a = b ∧ g = h)) := by
 have no : ∀ {w : Bool}, w = false → Ev (fun k => epitomeref06_Same.j0 k true a g b h) w := by
  rintro _ rfl
  refine Ev.step (f := fun _ => some false) (fun k => ?_) (Ev.now _)
  rw [epitomeref06_Same.j0, if_pos rfl]
 unfold epitomeref06_Same.f
 by_cases h1 : (a.length : Int) = (b.length : Int)
 ·refine ev_if_pos h1 ?_
  by_cases h2 : g.length = h.length
  ·rw [show ((g.length : Int) != (h.length : Int)) = false by simp [h2]]
   refine Ev.step (f := fun k => epitomeref06_Same.l0 k 0 a g b h) (fun k => by rw [epitomeref06_Same.j0, if_neg (by simp)]) ?_
   have v := same6_l1 a b g h h2 hg g h [] [] rfl rfl rfl
   have := same6_l0 g h a b _ (by omega) hm v a b [] [] rfl rfl rfl
   rw [show decide (a = b ∧ g = h) = (decide (a = b) && decide (g = h)) from Bool.decide_and _ _]
   exact this
  ·rw [show ((g.length : Int) != (h.length : Int)) = true by simp; omega]
   refine no ?_
   simp
   intro _ e
   exact h2 (by rw [e])
 ·refine ev_if_neg h1 (no ?_)
  simp
  intro e
  exact absurd (by rw [e]) h1
end Go.Proofs.YtekjfodfedpioaaDoor.F
end
section
namespace Go.Proofs.YtekjfodfedpioaaDoor.F
open Go.RowKit Go.Proofs.YtekjfodfedpioaaDoorW.PrintWords Go.Proofs.YtekjfodfedpioaaDoorW.PrintLast Go.Proofs.YtekjfodfedpioaaDoorW.PrintMore
set_option linter.unusedVariables false
set_option linter.unusedSimpArgs false
theorem compU_puts : ∀ (yp : List Int) (x y : List U), compU x (yp.map U.p ++ y) = yp.map U.p ++ compU x y
 | [], _, _ => rfl
 | r :: yp, x, y => by rw [List.map_cons, List.cons_append, comp_p, compU_puts yp x y, List.cons_append]
theorem compU_drops : ∀ (d : Nat) (x y : List U), noP y → compU (List.replicate d .d ++ x) y = List.replicate d .d ++ compU x y
 | 0, _, _, _ => rfl
 | d + 1, x, y, h => by rw [List.replicate_succ, List.cons_append, List.cons_append, comp_d _ _ h, compU_drops d x y h]
theorem cut_one9 (pre : List Int) (c : Int) (t : List Int) (h : Runes (pre ++ c :: t)) (hl : (pre ++ c :: t).length ≤ 1099511627776) : points_Cut.f (encT (pre ++ c :: t)) (pre.length : Int) ((pre.length + 1 : Nat) : Int) = some (encT [c], 0) := by
 rw [cut_enc _ h hl pre.length (pre.length + 1) (by omega) (by simp)]
 congr 3
 simp [List.take_append]
theorem mid_rd (L R : List (List Int)) (q : List Int) : rdOf ByteArray.empty ((L ++ q :: R).map encT) (L.length : Int) = encT q := by
 rw [map_mid0, show L.length = (L.map encT).length from (List.length_map _).symm, rdOf_at0]
theorem mid_set (L R : List (List Int)) (q p : List Int) : ((L ++ q :: R).map encT).set L.length (encT q ++ encT p) = (L ++ (q ++ p) :: R).map encT := by
 rw [map_mid0, show L.length = (L.map encT).length from (List.length_map _).symm, set_at0, map_mid0, encT_append]
section
variable {us : List Un} {n c : Nat} {P Q : List ByteArray} {G YG D : List Bool} {Z : List U}
theorem cg_A (hok : Ok us) (hc : (us.map Un.cout).sum = c) (hc2 : c ≤ 1000) {t i many kk : Nat} {kb : Bool} {L R : List (List Int)} {q yp : List Int}
  (ht : t ≤ c) (hG : G.length = n) (hQ : Q.length = c + 1) (hQa : rdOf ByteArray.empty Q (t : Int) = encT yp) (hl : leastU (exU us) t = L.length) (hkk : kk ≤ many) (hbr : kk = many → kb = true ∨ ¬ (i < n)) (hq : q.length + yp.length ≤ 100000)
  (hn : Ev (fun k => epitomelaw09_ComposeGaps.j6 k (us.map Un.sp) (t : Int) (i : Int) (many : Int) kb (kk : Int) (if kk < many then decide ((t : Int) < (YG.length : Int)) else false) P G Q YG ((gpP Z).map encT) (gpG Z) ((L ++ (q ++ yp) :: R).map encT) D) true) :
  Ev (fun k => epitomelaw09_ComposeGaps.l1 k (us.map Un.sp) (t : Int) (i : Int) (many : Int) kb (kk : Int) P G Q YG ((gpP Z).map encT) (gpG Z) ((L ++ q :: R).map encT) D) true := by
 have pl := placeLeast_is hok t (by omega)
 rw [hl] at pl
 have hzq_ := (encT_size q).2
 have hzy_ := (encT_size yp).2
 have hr := mid_rd L R q
 have hs := mid_set L R q yp
 have hlen : L.length < ((L ++ q :: R).map encT).length := by simp
 have e5 : Ev (fun k => epitomelaw09_ComposeGaps.j5 k (us.map Un.sp) (t : Int) (i : Int) (many : Int) kb (kk : Int) (L.length : Int) false P G Q YG ((gpP Z).map encT) (gpG Z) ((L ++ q :: R).map encT) D) true := by
  refine Ev.step (fun k => ?_) hn
  rw [epitomelaw09_ComposeGaps.j5, if_neg (by decide), if_pos (by omega), if_pos (by omega), if_pos (by omega), if_pos (by omega), hr, hQa, if_pos (by omega), Int.toNat_natCast, hs]
  show (if _ then _ else _) = _
  by_cases h : kk < many
  ·rw [if_pos (by omega), if_pos h]
  ·rw [if_neg (by omega), if_neg h]
 have e4 : Ev (fun k => epitomelaw09_ComposeGaps.j4 k (us.map Un.sp) (t : Int) (i : Int) (many : Int) kb (kk : Int) false P G Q YG ((gpP Z).map encT) (gpG Z) ((L ++ q :: R).map encT) D) true := by
  refine Ev.step (f := fun k => (place_Least.f k (us.map Un.sp) (t : Int)).bind fun bt157 => (if bt157.2 = 0 then (if bt157.1 < 0 then (epitomelaw09_ComposeGaps.j5 k (us.map Un.sp) (t : Int) (i : Int) (many : Int) kb (kk : Int) bt157.1 true P G Q YG ((gpP Z).map encT) (gpG Z) ((L ++ q :: R).map encT) D) else (epitomelaw09_ComposeGaps.j5 k (us.map Un.sp) (t : Int) (i : Int) (many : Int) kb (kk : Int) bt157.1 (decide (bt157.1 ≥ (((L ++ q :: R).map encT).length : Int))) P G Q YG ((gpP Z).map encT) (gpG Z) ((L ++ q :: R).map encT) D)) else (epitomelaw09_ComposeGaps.j5 k (us.map Un.sp) (t : Int) (i : Int) (many : Int) kb (kk : Int) bt157.1 true P G Q YG ((gpP Z).map encT) (gpG Z) ((L ++ q :: R).map encT) D))) (fun k => by rw [epitomelaw09_ComposeGaps.j4, if_neg (by decide)]) ?_
  refine Ev.bind pl (ev_if_pos rfl (ev_if_neg (by omega) ?_))
  rw [show decide ((L.length : Int) ≥ (((L ++ q :: R).map encT).length : Int)) = false from decide_eq_false (by omega)]
  exact e5
 refine Ev.step (fun k => ?_) e4
 rw [epitomelaw09_ComposeGaps.l1, if_pos (by omega), if_neg (by omega)]
 by_cases h : kk = many
 ·rw [if_pos (by omega)]
  cases kb with
  | true => rw [if_pos rfl]
  | false =>
   have : ¬ (i < n) := (hbr h).resolve_left (by decide)
   rw [if_neg (by decide), decide_eq_false (by omega)]
 ·rw [if_neg (by omega)]
theorem cg_B (hc2 : c ≤ 1000) (hn1 : n ≤ 1000) {t i many : Nat} {kb b : Bool} {L R : List (List Int)} {q dn td : List Int} {r : Int}
  (hi : i = L.length) (hP : rdOf ByteArray.empty P (i : Int) = encT (dn ++ r :: td)) (hPl : i < P.length) (hru : Runes (dn ++ r :: td)) (hpl : (dn ++ r :: td).length ≤ 1000) (ht : t < YG.length) (htl : t ≤ 1000) (hb : rdOf false YG (t : Int) = b) (hq : q.length ≤ 100000)
  (hn : Ev (fun k => epitomelaw09_ComposeGaps.l1 k (us.map Un.sp) ((t + 1 : Nat) : Int) (i : Int) (many : Int) kb ((dn.length + 1 : Nat) : Int) P G Q YG ((gpP Z).map encT) (gpG Z) ((L ++ (if b = true then q else q ++ [r]) :: R).map encT) D) true) :
  Ev (fun k => epitomelaw09_ComposeGaps.j6 k (us.map Un.sp) (t : Int) (i : Int) (many : Int) kb (dn.length : Int) (decide ((t : Int) < (YG.length : Int))) P G Q YG ((gpP Z).map encT) (gpG Z) ((L ++ q :: R).map encT) D) true := by
 have hcut := cut_one9 dn r td hru (by omega)
 have hzq_ := (encT_size q).2
 have hz1_ := (encT_size [r]).2
 have hdl : dn.length ≤ 1000 := by rw [List.length_append] at hpl; omega
 have hr := mid_rd L R q
 have hs := mid_set L R q [r]
 have hlen : L.length < ((L ++ q :: R).map encT).length := by simp
 have h1 : ([r] : List Int).length = 1 := rfl
 have hz2_ : ((encT [r], (0 : Int)) : ByteArray × Int).1.size ≤ 4 * [r].length := hz1_
 subst hi
 refine Ev.step (fun k => ?_) hn
 rw [epitomelaw09_ComposeGaps.j6, if_pos (decide_eq_true (by omega)), if_pos (by omega), if_pos (by omega), hP, w64_succ _ (by omega), hcut]
 show (if _ then _ else _) = _
 rw [if_pos (by omega), hb, w64_succ _ (by omega)]
 cases b with
 | true => rw [if_pos rfl, if_pos rfl]
 | false => rw [if_neg (by decide), if_pos (by omega), hr, if_pos (by omega), Int.toNat_natCast, hs, if_neg (by decide)]
end
theorem le_sum_map9 {p : List Int} : ∀ {L : List (List Int)}, p ∈ L → p.length ≤ (L.map List.length).sum
 | x :: L, h => by
  rw [List.map_cons, List.sum_cons]
  rcases List.mem_cons.1 h with rfl | h
  ·omega
  ·have := le_sum_map9 h; omega
def headG : List Bool → Bool
 | [] => false
 | b :: _ => !b
theorem preq_rep (x : List Int) (d : Nat) : preq x (List.replicate d [] ++ [[]]) = x :: List.replicate d [] := by
 rw [← List.replicate_succ', List.replicate_succ, preq, List.append_nil]
theorem adv (L : List (List Int)) (q : List Int) (m : Nat) : ∀ d : Nat, ∃ (L' : List (List Int)) (q' : List Int), L'.length = L.length + d ∧ L ++ q :: List.replicate (d + m) [] = L' ++ q' :: List.replicate m [] ∧
  (∀ g, g ≠ [] → L ++ preq q (List.replicate d [] ++ g) = L' ++ preq q' g) ∧ q'.length ≤ q.length
 | 0 => ⟨L, q, rfl, by rw [Nat.zero_add], fun g _ => rfl, Nat.le_refl _⟩
 | d + 1 => by
  refine ⟨L ++ q :: List.replicate d [], [], by rw [List.length_append, List.length_cons, List.length_replicate], ?_, fun g hg => ?_, Nat.zero_le _⟩
  ·rw [List.append_assoc, List.cons_append, show d + 1 + m = d + (m + 1) by omega, ← List.replicate_append_replicate, List.replicate_succ]
  ·rw [preq_nil hg, List.replicate_succ, List.cons_append, preq, List.append_nil, List.append_assoc, List.cons_append]
theorem compU_pu (r : Int) (X Y : List U) (b : Bool) : compU (.p r :: X) (ug b :: Y) = if b = true then compU X Y else .p r :: compU X Y := by cases b <;> simp [ug, compU]
theorem compU_ku (X Y : List U) (b : Bool) : compU (.k :: X) (ug b :: Y) = ug b :: compU X Y := by cases b <;> simp [ug, compU]
theorem noP_ug (b : Bool) (Y : List U) : noP (ug b :: Y) := by cases b <;> trivial
section
variable {us : List Un} {n c : Nat} {Q : List ByteArray} {YG D : List Bool} {Z : List U} {W : List ByteArray}
theorem cg_next (hn1 : n ≤ 1000) (hx : cinU (exU us) = n) (hr : RunesU (exU us)) (hco : coutU (exU us) ≤ 1000) {t i : Nat} {X : List U} {PP : List (List Int)} {GP : List Bool} (hi : i + cinU X = n) (hPP : PP.length = i) (hGP : GP.length = i)
  (hP : gpP (exU us) = PP ++ gpP X) (hG : gpG (exU us) = GP ++ gpG X) {pi : List Int} {tl : List (List Int)} (hpi : gpP X = pi :: tl)
  (hn : Ev (fun k => epitomelaw09_ComposeGaps.l1 k (us.map Un.sp) (t : Int) (i : Int) (pi.length : Int) (headG (gpG X)) 0 ((gpP (exU us)).map encT) (gpG (exU us)) Q YG ((gpP Z).map encT) (gpG Z) W D) true) :
  Ev (fun k => epitomelaw09_ComposeGaps.l0 k (us.map Un.sp) (t : Int) (i : Int) ((gpP (exU us)).map encT) (gpG (exU us)) Q YG ((gpP Z).map encT) (gpG Z) W D) true := by
 have lp := gpP_length (exU us)
 have lg := gpG_length (exU us)
 have hmem : pi ∈ gpP (exU us) := by rw [hP, hpi]; simp
 have hru := gpP_runes (exU us) hr pi hmem
 have hle := le_sum_map9 hmem
 have hsum := gpP_sum (exU us)
 have hcnt := count_enc pi hru (by omega)
 have hPi : rdOf ByteArray.empty ((gpP (exU us)).map encT) (i : Int) = encT pi := by rw [hP, hpi, map_mid0, ← hPP, show PP.length = (PP.map encT).length from (List.length_map _).symm, rdOf_at0]
 have hPl : ((gpP (exU us)).map encT).length = n + 1 := by rw [List.length_map, lp, hx]
 have hlx := gpG_length X
 cases hgx : gpG X with
 | nil =>
  rw [hgx] at hn hlx
  have : cinU X = 0 := hlx.symm
  refine Ev.step (f := fun k => epitomelaw09_ComposeGaps.j2 k (us.map Un.sp) (t : Int) (i : Int) (pi.length : Int) false ((gpP (exU us)).map encT) (gpG (exU us)) Q YG ((gpP Z).map encT) (gpG Z) W D) (fun k => ?_) ?_
  ·rw [epitomelaw09_ComposeGaps.l0, if_pos (by omega), if_pos (by omega), hPi, hcnt]
   show (if _ then _ else _) = _
   rw [if_neg (by omega)]
  ·exact Ev.step (fun k => by rw [epitomelaw09_ComposeGaps.j2]; rfl) hn
 | cons b gs =>
  rw [hgx] at hn hlx
  have hlx2 : cinU X = gs.length + 1 := by rw [← hlx]; rfl
  have hg : rdOf false (gpG (exU us)) (i : Int) = b := by rw [hG, hgx, ← hGP, rdOf_at0]
  refine Ev.step (f := fun k => epitomelaw09_ComposeGaps.j2 k (us.map Un.sp) (t : Int) (i : Int) (pi.length : Int) (!b) ((gpP (exU us)).map encT) (gpG (exU us)) Q YG ((gpP Z).map encT) (gpG Z) W D) (fun k => ?_) ?_
  ·rw [epitomelaw09_ComposeGaps.l0, if_pos (by omega), if_pos (by omega), hPi, hcnt]
   show (if _ then _ else _) = _
   rw [if_pos (by omega), hg]
  ·exact Ev.step (fun k => by rw [epitomelaw09_ComposeGaps.j2]; rfl) hn
end
theorem cg_main {us vs : List Un} {n c : Nat} {Z : List U} (hok : Ok us) (hn1 : n ≤ 100) (hc : (us.map Un.cout).sum = c) (hc2 : c ≤ 500) (hx : cinU (exU us) = n) (hox : coutU (exU us) = c) (hy : cinU (exU vs) = c) (hru : RunesU (exU us)) :
  ∀ (X Y : List U) (L : List (List Int)) (q : List Int) (GL : List Bool) (d t i : Nat) (PP QP : List (List Int)) (GP YP : List Bool) (dn pi : List Int) (tl : List (List Int)),
   i + cinU X = n → L.length + d = i → GL.length = L.length → t + coutU X = c → cinU Y = coutU X → PP.length = i → GP.length = i → QP.length = t → YP.length = t →
   gpP (exU us) = PP ++ pi :: tl → preq dn (gpP X) = pi :: tl → gpG (exU us) = GP ++ gpG X → gpP (exU vs) = QP ++ gpP Y → gpG (exU vs) = YP ++ gpG Y →
   (∀ s, s ≤ coutU X → leastU (exU us) (t + s) = L.length + leastU (List.replicate d .d ++ X) s) →
   L ++ preq q (gpP (compU (List.replicate d .d ++ X) Y)) = gpP Z → GL ++ gpG (compU (List.replicate d .d ++ X) Y) = gpG Z → q.length + putsU X + putsU Y ≤ 50000 →
   Ev (fun k => epitomelaw09_ComposeGaps.l1 k (us.map Un.sp) (t : Int) (i : Int) (pi.length : Int) (headG (gpG X)) (dn.length : Int) ((gpP (exU us)).map encT) (gpG (exU us)) ((gpP (exU vs)).map encT) (gpG (exU vs)) ((gpP Z).map encT) (gpG Z) ((L ++ q :: List.replicate (n - L.length) []).map encT) (GL ++ List.replicate d true ++ gpG X)) true
 | [], Y, L, q, GL, d, t, i, PP, QP, GP, YP, dn, pi, tl, h1, h2, h3, h4, h5, h6, h7, h8, h9, hP, hpi, hG, hQ, hYG, hle, hZP, hZG, hb => by
  have e1 : i = n := h1
  have e4 : t = c := h4
  have hd : n - L.length = d := by omega
  obtain ⟨yp, rest, rfl, hr⟩ := split_puts Y
  rw [cinU_puts] at h5
  have hrest : rest = [] := by
   rcases hr with rfl | ⟨X', rfl⟩ | ⟨X', rfl⟩
   ·rfl
   ·simp [cinU, coutU] at h5
   ·simp [cinU, coutU] at h5
  subst hrest
  rw [putsU_puts] at hb
  have epi : pi = dn ∧ tl = [] := by
   rw [gpP, preq, List.append_nil] at hpi
   injection hpi with a b
   exact ⟨a.symm, b.symm⟩
  obtain ⟨rfl, rfl⟩ := epi
  have lp := gpP_length (exU us)
  have lg := gpG_length (exU us)
  have lq := gpP_length (exU vs)
  have hcx : compU (List.replicate d .d ++ []) (yp.map U.p ++ []) = yp.map U.p ++ List.replicate d .d := by
   rw [compU_puts, compU_drops d [] [] trivial, show compU [] [] = [] by rw [compU], List.append_nil]
  rw [hcx, gpP_put, show List.replicate d U.d = List.replicate d U.d ++ [] by simp, gpP_drop, show gpP [] = [[]] from rfl, preq_preq, preq_rep] at hZP
  rw [hcx, gpG_put, show List.replicate d U.d = List.replicate d U.d ++ [] by simp, gpG_drop, show gpG [] = [] from rfl] at hZG
  have hQ1 : gpP (yp.map U.p ++ []) = [yp] := by rw [gpP_put]; simp [gpP, preq]
  rw [hQ1] at hQ
  have hl : leastU (exU us) t = L.length := by have := hle 0 (Nat.zero_le _); rw [Nat.add_zero, leastU_zero, Nat.add_zero] at this; exact this
  have hQa : rdOf ByteArray.empty ((gpP (exU vs)).map encT) (t : Int) = encT yp := by rw [hQ, map_mid0, ← h8, show QP.length = (QP.map encT).length from (List.length_map _).symm, rdOf_at0]
  refine cg_A hok hc (by omega) (by omega) (by rw [lg, hx]) (by rw [List.length_map, lq, hy]) hQa hl (Nat.le_refl _) (fun _ => .inr (by omega)) (by omega) ?_
  rw [if_neg (by omega)]
  have hpl : pi.length ≤ 1000000 := by
   have hm : pi ∈ gpP (exU us) := by rw [hP]; simp
   have := le_sum_map9 hm
   have := gpP_sum (exU us)
   omega
  have sm := same6_is ((gpP Z).map encT) ((gpP Z).map encT) (gpG Z) (gpG Z) (by rw [← hZP]; simp; omega) (by rw [← hZG]; simp; omega)
  rw [decide_eq_true ⟨rfl, rfl⟩] at sm
  rw [hd, hZP, show GL ++ List.replicate d true ++ gpG [] = gpG Z by rw [← hZG, show gpG [] = [] from rfl]; simp]
  refine Ev.step (f := fun k => epitomelaw09_ComposeGaps.l1 k (us.map Un.sp) (t : Int) (i : Int) (pi.length : Int) (headG (gpG [])) ((pi.length + 1 : Nat) : Int) ((gpP (exU us)).map encT) (gpG (exU us)) ((gpP (exU vs)).map encT) (gpG (exU vs)) ((gpP Z).map encT) (gpG Z) ((gpP Z).map encT) (gpG Z)) (fun k => by rw [epitomelaw09_ComposeGaps.j6, if_neg (by decide), w64_succ _ (by omega)]) ?_
  refine Ev.step (f := fun k => epitomelaw09_ComposeGaps.l0 k (us.map Un.sp) (t : Int) ((i + 1 : Nat) : Int) ((gpP (exU us)).map encT) (gpG (exU us)) ((gpP (exU vs)).map encT) (gpG (exU vs)) ((gpP Z).map encT) (gpG Z) ((gpP Z).map encT) (gpG Z)) (fun k => by rw [epitomelaw09_ComposeGaps.l1, if_neg (by omega), show headG (gpG []) = false from rfl, if_neg (by decide), w64_succ _ (by omega)]) ?_
  refine Ev.step (f := fun k => (epitomeref06_Same.f k ((gpP Z).map encT) (gpG Z) ((gpP Z).map encT) (gpG Z)).bind fun t149 => some t149) (fun k => ?_) (Ev.bind sm (Ev.now true))
  rw [epitomelaw09_ComposeGaps.l0, if_neg (by rw [List.length_map]; omega)]
 | .d :: X, Y, L, q, GL, d, t, i, PP, QP, GP, YP, dn, pi, tl, h1, h2, h3, h4, h5, h6, h7, h8, h9, hP, hpi, hG, hQ, hYG, hle, hZP, hZG, hb => by
  have e1 : i + (cinU X + 1) = n := h1
  have e4 : t + coutU X = c := h4
  rw [gpP, preq, List.append_nil] at hpi
  injection hpi with ea eb
  subst ea
  rw [gpG] at hG
  have hlist : List.replicate d U.d ++ .d :: X = List.replicate (d + 1) U.d ++ X := by rw [List.replicate_succ', List.append_assoc]; rfl
  rw [hlist] at hZP hZG
  have lp := gpP_length (exU us)
  have lg := gpG_length (exU us)
  have lq := gpP_length (exU vs)
  have hpl : dn.length ≤ 1000000 := by
   have hm : dn ∈ gpP (exU us) := by rw [hP]; simp
   have := le_sum_map9 hm
   have := gpP_sum (exU us)
   omega
  obtain ⟨p2, tl2, ep⟩ : ∃ p2 tl2, gpP X = p2 :: tl2 := by
   cases h : gpP X with
   | nil => exact absurd h (gpP_ne X)
   | cons a b => exact ⟨a, b, rfl⟩
  have hD : GL ++ List.replicate d true ++ gpG (.d :: X) = GL ++ List.replicate (d + 1) true ++ gpG X := by rw [gpG, List.replicate_succ']; simp
  have ih := cg_main (Z := Z) hok hn1 hc hc2 hx hox hy hru X Y L q GL (d + 1) t (i + 1) (PP ++ [dn]) QP (GP ++ [true]) YP [] p2 tl2 (by omega) (by omega) h3 e4 h5 (by simp [h6]) (by simp [h7]) h8 h9 (by rw [hP, ← eb, ep]; simp) (by rw [preq_nil (gpP_ne X), ep]) (by rw [hG]; simp) hQ hYG (fun s hs => by rw [hle s hs, hlist]) hZP hZG hb
  have nx := cg_next (Q := (gpP (exU vs)).map encT) (YG := gpG (exU vs)) (Z := Z) (W := (L ++ q :: List.replicate (n - L.length) []).map encT) (D := GL ++ List.replicate (d + 1) true ++ gpG X) (t := t) (by omega) hx hru (by omega) (i := i + 1) (X := X) (PP := PP ++ [dn]) (GP := GP ++ [true]) (by omega) (by simp [h6]) (by simp [h7]) (by rw [hP, ← eb]; simp) (by rw [hG]; simp) ep ih
  rw [hD]
  refine Ev.step (f := fun k => epitomelaw09_ComposeGaps.j4 k (us.map Un.sp) (t : Int) (i : Int) (dn.length : Int) false (dn.length : Int) true ((gpP (exU us)).map encT) (gpG (exU us)) ((gpP (exU vs)).map encT) (gpG (exU vs)) ((gpP Z).map encT) (gpG Z) ((L ++ q :: List.replicate (n - L.length) []).map encT) (GL ++ List.replicate (d + 1) true ++ gpG X)) (fun k => ?_) ?_
  ·rw [epitomelaw09_ComposeGaps.l1, if_pos (by omega), if_neg (by rw [List.length_map]; omega), if_pos rfl, show headG (gpG (.d :: X)) = false from rfl, if_neg (by decide), decide_eq_true (by omega)]
  ·refine Ev.step (fun k => ?_) nx
   rw [epitomelaw09_ComposeGaps.j4, if_pos rfl, if_neg (by decide), w64_succ _ (by omega)]
 | .k :: X, Y, L, q, GL, d, t, i, PP, QP, GP, YP, dn, pi, tl, h1, h2, h3, h4, h5, h6, h7, h8, h9, hP, hpi, hG, hQ, hYG, hle, hZP, hZG, hb => by
  have e1 : i + (cinU X + 1) = n := h1
  have e4 : t + (coutU X + 1) = c := h4
  have e5 : cinU Y = coutU X + 1 := h5
  have eb0 : putsU (.k :: X) = putsU X := rfl
  rw [gpP, preq, List.append_nil] at hpi
  injection hpi with ea eb
  subst ea
  rw [gpG] at hG
  obtain ⟨yp, b, Y', rfl, hcY⟩ := split_more e5
  rw [putsU_puts, putsU_ug, eb0] at hb
  have gy : gpP (yp.map U.p ++ ug b :: Y') = yp :: gpP Y' := by rw [gpP_put, gpP_ug, preq, List.append_nil]
  have gg : gpG (yp.map U.p ++ ug b :: Y') = b :: gpG Y' := by rw [gpG_put, gpG_ug]
  rw [gy] at hQ
  rw [gg] at hYG
  rw [compU_puts, compU_drops _ _ _ (noP_ug b Y'), compU_ku, gpP_put, preq_preq, gpP_drop] at hZP
  rw [compU_puts, compU_drops _ _ _ (noP_ug b Y'), compU_ku, gpG_put, gpG_drop, gpG_ug] at hZG
  obtain ⟨L', q', hL', hW, ht, hq'⟩ := adv L (q ++ yp) (n - i) d
  rw [ht _ (gpP_ne _), gpP_ug, preq, List.append_nil] at hZP
  rw [show d + (n - i) = n - L.length by omega] at hW
  rw [List.length_append] at hq'
  have lp := gpP_length (exU us)
  have lg := gpG_length (exU us)
  have lq := gpP_length (exU vs)
  have ly := gpG_length (exU vs)
  have hpl : dn.length ≤ 1000000 := by
   have hm : dn ∈ gpP (exU us) := by rw [hP]; simp
   have := le_sum_map9 hm
   have := gpP_sum (exU us)
   omega
  obtain ⟨p2, tl2, ep⟩ : ∃ p2 tl2, gpP X = p2 :: tl2 := by
   cases h : gpP X with
   | nil => exact absurd h (gpP_ne X)
   | cons a b => exact ⟨a, b, rfl⟩
  have hl : leastU (exU us) t = L.length := by have := hle 0 (Nat.zero_le _); rw [Nat.add_zero, leastU_zero, Nat.add_zero] at this; exact this
  have hQa : rdOf ByteArray.empty ((gpP (exU vs)).map encT) (t : Int) = encT yp := by rw [hQ, map_mid0, ← h8, show QP.length = (QP.map encT).length from (List.length_map _).symm, rdOf_at0]
  have hYa : rdOf false (gpG (exU vs)) (t : Int) = b := by rw [hYG, ← h9, rdOf_at0]
  have hrep : List.replicate (n - i) ([] : List Int) = [] :: List.replicate (n - (i + 1)) [] := by rw [show n - i = (n - (i + 1)) + 1 by omega, List.replicate_succ]
  have hW2 : L ++ (q ++ yp) :: List.replicate (n - L.length) [] = (L' ++ [q']) ++ [] :: List.replicate (n - (L' ++ [q']).length) [] := by
   rw [hW, hrep, List.length_append, List.length_singleton, hL', h2, List.append_assoc]
   rfl
  have hdl : (GL ++ List.replicate d true).length = i := by simp; omega
  have hD : (GL ++ List.replicate d true ++ gpG (.k :: X)).set i b = (GL ++ List.replicate d true ++ [b]) ++ List.replicate 0 true ++ gpG X := by
   rw [gpG, ← hdl, set_at0]
   simp
  have hDl : (GL ++ List.replicate d true ++ gpG (.k :: X)).length = i + (cinU X + 1) := by
   rw [List.length_append, hdl, gpG_length]
   rfl
  have ih := cg_main (Z := Z) hok hn1 hc hc2 hx hox hy hru X Y' (L' ++ [q']) [] (GL ++ List.replicate d true ++ [b]) 0 (t + 1) (i + 1) (PP ++ [dn]) (QP ++ [yp]) (GP ++ [false]) (YP ++ [b]) [] p2 tl2 (by omega) (by simp; omega) (by simp; omega) (by omega) hcY (by simp [h6]) (by simp [h7]) (by simp [h8]) (by simp [h9]) (by rw [hP, ← eb, ep]; simp) (by rw [preq_nil (gpP_ne X), ep]) (by rw [hG]; simp) (by rw [hQ]; simp) (by rw [hYG]; simp) (fun s hs => by
   have := hle (s + 1) (Nat.succ_le_succ hs)
   rw [show t + 1 + s = t + (s + 1) by omega, this, least_drops d _ _ (Nat.succ_pos s)]
   show L.length + (d + (leastU X s + 1)) = _
   simp
   omega) (by rw [preq_nil (gpP_ne _), List.append_assoc]; exact hZP) (by rw [← hZG]; simp) (by simp; omega)
  have nx := cg_next (Q := (gpP (exU vs)).map encT) (YG := gpG (exU vs)) (Z := Z) (t := t + 1) (by omega) hx hru (by omega) (i := i + 1) (X := X) (PP := PP ++ [dn]) (GP := GP ++ [false]) (by omega) (by simp [h6]) (by simp [h7]) (by rw [hP, ← eb]; simp) (by rw [hG]; simp) ep ih
  refine cg_A hok hc (by omega) (by omega) (by rw [lg, hx]) (by rw [List.length_map, lq, hy]) hQa hl (Nat.le_refl _) (fun _ => .inl rfl) (by omega) ?_
  rw [if_neg (by omega), hW2]
  refine Ev.step (f := fun k => epitomelaw09_ComposeGaps.l1 k (us.map Un.sp) (t : Int) (i : Int) (dn.length : Int) true ((dn.length + 1 : Nat) : Int) ((gpP (exU us)).map encT) (gpG (exU us)) ((gpP (exU vs)).map encT) (gpG (exU vs)) ((gpP Z).map encT) (gpG Z) (((L' ++ [q']) ++ [] :: List.replicate (n - (L' ++ [q']).length) []).map encT) (GL ++ List.replicate d true ++ gpG (.k :: X))) (fun k => by rw [epitomelaw09_ComposeGaps.j6, if_neg (by decide), w64_succ _ (by omega)]; rfl) ?_
  refine Ev.step (fun k => ?_) nx
  rw [epitomelaw09_ComposeGaps.l1, if_neg (by omega), if_pos rfl, if_pos (by omega), if_pos (by omega), if_pos (by omega), if_pos (by omega), hYa, Int.toNat_natCast, hD, w64_succ _ (by omega), w64_succ _ (by omega)]
 | .p r :: X, Y, L, q, GL, d, t, i, PP, QP, GP, YP, dn, pi, tl, h1, h2, h3, h4, h5, h6, h7, h8, h9, hP, hpi, hG, hQ, hYG, hle, hZP, hZG, hb => by
  have e1 : i + cinU X = n := h1
  have e4 : t + (coutU X + 1) = c := h4
  have e5 : cinU Y = coutU X + 1 := h5
  have eb0 : putsU (.p r :: X) = putsU X + 1 := rfl
  have eg : gpG (.p r :: X) = gpG X := rfl
  rw [gpP, preq_preq] at hpi
  rw [eg] at hG
  obtain ⟨yp, b, Y', rfl, hcY⟩ := split_more e5
  rw [putsU_puts, putsU_ug, eb0] at hb
  have gy : gpP (yp.map U.p ++ ug b :: Y') = yp :: gpP Y' := by rw [gpP_put, gpP_ug, preq, List.append_nil]
  have gg : gpG (yp.map U.p ++ ug b :: Y') = b :: gpG Y' := by rw [gpG_put, gpG_ug]
  rw [gy] at hQ
  rw [gg] at hYG
  rw [compU_puts, compU_drops _ _ _ (noP_ug b Y'), compU_pu, gpP_put, preq_preq, gpP_drop] at hZP
  rw [compU_puts, compU_drops _ _ _ (noP_ug b Y'), compU_pu, gpG_put, gpG_drop] at hZG
  obtain ⟨L', q', hL', hW, ht, hq'⟩ := adv L (q ++ yp) (n - i) d
  rw [ht _ (gpP_ne _)] at hZP
  rw [show d + (n - i) = n - L.length by omega] at hW
  rw [List.length_append] at hq'
  have lp := gpP_length (exU us)
  have lg := gpG_length (exU us)
  have lq := gpP_length (exU vs)
  have ly := gpG_length (exU vs)
  obtain ⟨p2, tl2, ep⟩ : ∃ p2 tl2, gpP X = p2 :: tl2 := by
   cases h : gpP X with
   | nil => exact absurd h (gpP_ne X)
   | cons a b => exact ⟨a, b, rfl⟩
  have epi : pi = dn ++ r :: p2 := by
   rw [ep, preq] at hpi
   injection hpi with a _
   rw [← a]
   simp
  have hm : pi ∈ gpP (exU us) := by rw [hP]; simp
  have hple := le_sum_map9 hm
  have hpsum := gpP_sum (exU us)
  have hpru := gpP_runes (exU us) hru pi hm
  have hPi : rdOf ByteArray.empty ((gpP (exU us)).map encT) (i : Int) = encT pi := by rw [hP, map_mid0, ← h6, show PP.length = (PP.map encT).length from (List.length_map _).symm, rdOf_at0]
  have hpil : pi.length = dn.length + (p2.length + 1) := by rw [epi]; simp
  have hl : leastU (exU us) t = L.length := by have := hle 0 (Nat.zero_le _); rw [Nat.add_zero, leastU_zero, Nat.add_zero] at this; exact this
  have hQa : rdOf ByteArray.empty ((gpP (exU vs)).map encT) (t : Int) = encT yp := by rw [hQ, map_mid0, ← h8, show QP.length = (QP.map encT).length from (List.length_map _).symm, rdOf_at0]
  have hYa : rdOf false (gpG (exU vs)) (t : Int) = b := by rw [hYG, ← h9, rdOf_at0]
  have hdl : (GL ++ List.replicate d true).length = L'.length := by simp; omega
  have hqb : (if b = true then q' else q' ++ [r]).length ≤ q'.length + 1 := by cases b <;> simp
  have ih := cg_main (Z := Z) hok hn1 hc hc2 hx hox hy hru X Y' L' (if b = true then q' else q' ++ [r]) (GL ++ List.replicate d true) 0 (t + 1) i PP (QP ++ [yp]) GP (YP ++ [b]) (dn ++ [r]) pi tl e1 (by omega) hdl (by omega) hcY h6 h7 (by simp [h8]) (by simp [h9]) hP hpi hG (by rw [hQ]; simp) (by rw [hYG]; simp) (fun s hs => by
   have := hle (s + 1) (Nat.succ_le_succ hs)
   rw [show t + 1 + s = t + (s + 1) by omega, this, least_drops d _ _ (Nat.succ_pos s), hL']
   show L.length + (d + leastU X s) = _
   simp
   omega) (by
    rw [← hZP]
    cases b with
    | true => rfl
    | false =>
     rw [if_neg (by decide), if_neg (by decide), gpP, preq_preq]
     rfl) (by
    rw [← hZG, List.append_assoc]
    cases b with
    | true => rfl
    | false => rfl) (by omega)
  refine cg_A hok hc (by omega) (by omega) (by rw [lg, hx]) (by rw [List.length_map, lq, hy]) hQa hl (by omega) (fun h => by omega) (by omega) ?_
  rw [if_pos (by omega), hW]
  refine cg_B (c := c) (n := n) (by omega) (by omega) (b := b) (by omega) (by rw [hPi, epi]) (by rw [List.length_map]; omega) (by rw [← epi]; exact hpru) (by rw [← epi]; omega) (by omega) (by omega) hYa (by omega) ?_
  rw [List.length_append, List.length_singleton, show n - L'.length = n - i by omega, show List.replicate 0 true = ([] : List Bool) from rfl, List.append_nil] at ih
  rw [eg]
  exact ih
end Go.Proofs.YtekjfodfedpioaaDoor.F
end
section
namespace Go.Proofs.YtekjfodfedpioaaDoor.F
open Go.RowKit Go.Proofs.YtekjfodfedpioaaDoorW.PrintWords Go.Proofs.YtekjfodfedpioaaDoorW.PrintLast Go.Proofs.YtekjfodfedpioaaDoorW.PrintMore
set_option linter.unusedVariables false
set_option linter.unusedSimpArgs false
def consF (u : Un) (us : List Un) : List Un := if fullU u = true then u :: us else us
theorem ex_consF (u : Un) (us : List Un) : exU (consF u us) = u.ex ++ exU us := by
 unfold consF
 split
 ·exact exU_cons u us
 ·next h =>
  have : u.ex = [] := by
   cases u with
   | keep n => simp [fullU] at h; subst h; rfl
   | put l => simp [fullU] at h; subst h; rfl
   | drop n => simp [fullU] at h; subst h; rfl
  rw [this, List.nil_append]
def FullL (us : List Un) : Prop := ∀ u ∈ us, fullU u = true
theorem FullL.cons {u : Un} {us : List Un} (h : FullL (u :: us)) : fullU u = true ∧ FullL us := ⟨h u (by simp), fun v hv => h v (by simp [hv])⟩
theorem FullL.consF {u : Un} {us : List Un} (h : FullL us) : FullL (consF u us) := by
 unfold Go.Proofs.YtekjfodfedpioaaDoor.F.consF
 split
 ·next hu =>
  intro v hv
  rcases List.mem_cons.1 hv with rfl | hv
  ·exact hu
  ·exact h v hv
 ·exact h
theorem consF_length (u : Un) (us : List Un) : (consF u us).length ≤ us.length + 1 ∧ (fullU u = false → (consF u us).length = us.length) := by
 unfold consF
 split
 ·next h => exact ⟨by simp, fun e => by rw [h] at e; cases e⟩
 ·exact ⟨by omega, fun _ => rfl⟩
def compUn : Nat → List Un → List Un → List Un
 | n + 1, us, .put q :: vs => .put q :: compUn n us vs
 | n + 1, .drop m :: us, vs => .drop m :: compUn n us vs
 | n + 1, .keep a :: us, .keep b :: vs => .keep (min a b) :: compUn n (consF (.keep (a - b)) us) (consF (.keep (b - a)) vs)
 | n + 1, .keep a :: us, .drop b :: vs => .drop (min a b) :: compUn n (consF (.keep (a - b)) us) (consF (.drop (b - a)) vs)
 | n + 1, .put l :: us, .keep b :: vs => .put (l.take b) :: compUn n (consF (.put (l.drop b)) us) (consF (.keep (b - l.length)) vs)
 | n + 1, .put l :: us, .drop b :: vs => compUn n (consF (.put (l.drop b)) us) (consF (.drop (b - l.length)) vs)
 | _, _, _ => []
theorem noP_full {vs : List Un} (h : FullL vs) (hp : ∀ q r, vs ≠ .put q :: r) : noP (exU vs) := by
 rcases vs with _ | ⟨v, vs⟩
 ·trivial
 ·rw [exU_cons]
  have hv := h.cons.1
  cases v with
  | keep n => cases n with
   | zero => simp [fullU] at hv
   | succ n => trivial
  | put q => exact (hp q vs rfl).elim
  | drop n => cases n with
   | zero => simp [fullU] at hv
   | succ n => trivial
theorem rep_split {α : Type} (x : α) (a b : Nat) : List.replicate a x = List.replicate (min a b) x ++ List.replicate (a - b) x := by
 rw [List.replicate_append_replicate]
 congr 1
 omega
theorem len_step {u v : Un} {us vs : List Un} (h : fullU u = false ∨ fullU v = false) : (consF u us).length + (consF v vs).length ≤ us.length + vs.length + 1 := by
 have h1 := consF_length u us
 have h2 := consF_length v vs
 rcases h with h | h
 ·have := h1.2 h; omega
 ·have := h2.2 h; omega
theorem map_split (l : List Int) (b : Nat) : l.map U.p = (l.take b).map .p ++ (l.drop b).map .p := by
 rw [← List.map_append, List.take_append_drop]
theorem compUn_ex : ∀ (n : Nat) (us vs : List Un), FullL us → FullL vs → us.length + vs.length ≤ n → coutU (exU us) = cinU (exU vs) →
  exU (compUn n us vs) = compU (exU us) (exU vs) ∧ (compUn n us vs).length ≤ us.length + vs.length := by
 intro n
 induction n with
 | zero =>
  intro us vs _ _ h _
  obtain rfl : us = [] := List.eq_nil_of_length_eq_zero (by omega)
  obtain rfl : vs = [] := List.eq_nil_of_length_eq_zero (by omega)
  exact ⟨by rw [exU_nil, comp_nil]; rfl, Nat.le_refl _⟩
 | succ n ih =>
  intro us vs hu hv hn hc
  by_cases hp : ∃ q r, vs = .put q :: r
  ·obtain ⟨q, r, rfl⟩ := hp
   simp only [List.length_cons] at hn
   have := ih us r hu hv.cons.2 (by omega) (by rw [hc, exU_cons, cinU_append]; simp [Un.ex]; clear hc hn ih hu hv; induction q with | nil => rfl | cons a q ih => simpa [cinU] using ih)
   rw [show compUn (n + 1) us (.put q :: r) = .put q :: compUn n us r by simp only [compUn]]
   refine ⟨?_, by simp only [List.length_cons]; omega⟩
   rw [exU_cons, exU_cons, show (Un.put q).ex = q.map .p from rfl, comp_puts, this.1]
  ·have hp' : ∀ q r, vs ≠ .put q :: r := fun q r e => hp ⟨q, r, e⟩
   have hnp := noP_full hv hp'
   rcases us with _ | ⟨u, us⟩
   ·rcases vs with _ | ⟨v, vs⟩
    ·exact ⟨by rw [exU_nil, comp_nil]; rfl, Nat.zero_le _⟩
    ·exfalso
     have hv1 := hv.cons.1
     cases v with
     | put q => exact hp' q vs rfl
     | keep b => cases b with
      | zero => simp [fullU] at hv1
      | succ b => rw [exU_cons, show (Un.keep (b + 1)).ex = U.k :: List.replicate b .k from rfl] at hc; simp [exU, coutU, cinU] at hc
     | drop b => cases b with
      | zero => simp [fullU] at hv1
      | succ b => rw [exU_cons, show (Un.drop (b + 1)).ex = U.d :: List.replicate b .d from rfl] at hc; simp [exU, coutU, cinU] at hc
   ·simp only [List.length_cons] at hn
    have hu1 := hu.cons.1
    cases u with
    | drop m =>
     have e : compUn (n + 1) (.drop m :: us) vs = .drop m :: compUn n us vs := by
      rcases vs with _ | ⟨v, vs⟩
      ·simp only [compUn]
      ·cases v with
       | put q => exact (hp' q vs rfl).elim
       | keep b => simp only [compUn]
       | drop b => simp only [compUn]
     have hc2 : coutU (exU us) = cinU (exU vs) := by
      rw [← hc, exU_cons, coutU_append, show (Un.drop m).ex = List.replicate m .d from rfl]
      have : coutU (List.replicate m U.d) = 0 := by clear e hc hn hu hu1; induction m with | zero => rfl | succ m ih => rw [List.replicate_succ]; exact ih
      omega
     have := ih us vs hu.cons.2 hv (by omega) hc2
     rw [e]
     refine ⟨?_, by simp only [List.length_cons]; omega⟩
     rw [exU_cons, exU_cons, show (Un.drop m).ex = List.replicate m .d from rfl, comp_drops _ _ _ hnp, this.1]
    | keep a =>
     have ck : ∀ (c : Nat), coutU (List.replicate c U.k) = c := fun c => by induction c with | zero => rfl | succ c ih => rw [List.replicate_succ]; simp only [coutU]; omega
     have cik : ∀ (c : Nat), cinU (List.replicate c U.k) = c := fun c => by induction c with | zero => rfl | succ c ih => rw [List.replicate_succ]; simp only [cinU]; omega
     have cid : ∀ (c : Nat), cinU (List.replicate c U.d) = c := fun c => by induction c with | zero => rfl | succ c ih => rw [List.replicate_succ]; simp only [cinU]; omega
     rcases vs with _ | ⟨v, vs⟩
     ·exfalso
      rw [exU_cons, coutU_append, show (Un.keep a).ex = List.replicate a .k from rfl, ck, exU_nil] at hc
      simp [fullU] at hu1
      simp only [cinU] at hc
      omega
     ·simp only [List.length_cons] at hn
      cases v with
      | put q => exact (hp' q vs rfl).elim
      | keep b =>
       rw [exU_cons, coutU_append, exU_cons, cinU_append, show (Un.keep a).ex = List.replicate a .k from rfl, show (Un.keep b).ex = List.replicate b .k from rfl, ck, cik] at hc
       have hl := len_step (us := us) (vs := vs) (u := .keep (a - b)) (v := .keep (b - a)) ((Nat.le_total a b).elim (fun h => .inl (by simp [fullU]; omega)) (fun h => .inr (by simp [fullU]; omega)))
       have := ih (consF (.keep (a - b)) us) (consF (.keep (b - a)) vs) (FullL.consF hu.cons.2) (FullL.consF hv.cons.2) (by omega) (by rw [ex_consF, ex_consF, coutU_append, cinU_append]; show coutU (List.replicate _ _) + _ = cinU (List.replicate _ _) + _; rw [ck, cik]; omega)
       rw [show compUn (n + 1) (.keep a :: us) (.keep b :: vs) = .keep (min a b) :: compUn n (consF (.keep (a - b)) us) (consF (.keep (b - a)) vs) by simp only [compUn]]
       refine ⟨?_, by simp only [List.length_cons]; omega⟩
       rw [exU_cons, exU_cons, exU_cons, this.1, ex_consF, ex_consF, show (Un.keep a).ex = List.replicate a .k from rfl, show (Un.keep b).ex = List.replicate b .k from rfl, rep_split U.k a b, rep_split U.k b a, Nat.min_comm b a, List.append_assoc, List.append_assoc, comp_kk]
       rfl
      | drop b =>
       rw [exU_cons, coutU_append, exU_cons, cinU_append, show (Un.keep a).ex = List.replicate a .k from rfl, show (Un.drop b).ex = List.replicate b .d from rfl, ck, cid] at hc
       have hl := len_step (us := us) (vs := vs) (u := .keep (a - b)) (v := .drop (b - a)) ((Nat.le_total a b).elim (fun h => .inl (by simp [fullU]; omega)) (fun h => .inr (by simp [fullU]; omega)))
       have := ih (consF (.keep (a - b)) us) (consF (.drop (b - a)) vs) (FullL.consF hu.cons.2) (FullL.consF hv.cons.2) (by omega) (by rw [ex_consF, ex_consF, coutU_append, cinU_append]; show coutU (List.replicate _ _) + _ = cinU (List.replicate _ _) + _; rw [ck, cid]; omega)
       rw [show compUn (n + 1) (.keep a :: us) (.drop b :: vs) = .drop (min a b) :: compUn n (consF (.keep (a - b)) us) (consF (.drop (b - a)) vs) by simp only [compUn]]
       refine ⟨?_, by simp only [List.length_cons]; omega⟩
       rw [exU_cons, exU_cons, exU_cons, this.1, ex_consF, ex_consF, show (Un.keep a).ex = List.replicate a .k from rfl, show (Un.drop b).ex = List.replicate b .d from rfl, rep_split U.k a b, rep_split U.d b a, Nat.min_comm b a, List.append_assoc, List.append_assoc, comp_kd]
       rfl
    | put l =>
     have cp : ∀ (l : List Int), coutU (l.map U.p) = l.length := fun l => by induction l with | nil => rfl | cons a l ih => rw [List.map_cons]; simp only [coutU, List.length_cons]; omega
     have cik : ∀ (c : Nat), cinU (List.replicate c U.k) = c := fun c => by induction c with | zero => rfl | succ c ih => rw [List.replicate_succ]; simp only [cinU]; omega
     have cid : ∀ (c : Nat), cinU (List.replicate c U.d) = c := fun c => by induction c with | zero => rfl | succ c ih => rw [List.replicate_succ]; simp only [cinU]; omega
     rcases vs with _ | ⟨v, vs⟩
     ·exfalso
      rw [exU_cons, coutU_append, show (Un.put l).ex = l.map .p from rfl, cp, exU_nil] at hc
      simp [fullU] at hu1
      simp only [cinU] at hc
      exact hu1 (List.eq_nil_of_length_eq_zero (by omega))
     ·simp only [List.length_cons] at hn
      have tl : ∀ b, (l.take b).length = min b l.length := fun b => List.length_take
      cases v with
      | put q => exact (hp' q vs rfl).elim
      | keep b =>
       rw [exU_cons, coutU_append, exU_cons, cinU_append, show (Un.put l).ex = l.map .p from rfl, show (Un.keep b).ex = List.replicate b .k from rfl, cp, cik] at hc
       have hl := len_step (us := us) (vs := vs) (u := .put (l.drop b)) (v := .keep (b - l.length)) ((Nat.le_total l.length b).elim (fun h => .inl (by simp [fullU]; omega)) (fun h => .inr (by simp [fullU]; omega)))
       have := ih (consF (.put (l.drop b)) us) (consF (.keep (b - l.length)) vs) (FullL.consF hu.cons.2) (FullL.consF hv.cons.2) (by omega) (by rw [ex_consF, ex_consF, coutU_append, cinU_append]; show coutU (List.map _ _) + _ = cinU (List.replicate _ _) + _; rw [cp, cik, List.length_drop]; omega)
       rw [show compUn (n + 1) (.put l :: us) (.keep b :: vs) = .put (l.take b) :: compUn n (consF (.put (l.drop b)) us) (consF (.keep (b - l.length)) vs) by simp only [compUn]]
       refine ⟨?_, by simp only [List.length_cons]; omega⟩
       rw [exU_cons, exU_cons, exU_cons, this.1, ex_consF, ex_consF, show (Un.put l).ex = l.map .p from rfl, show (Un.keep b).ex = List.replicate b .k from rfl, map_split l b, rep_split U.k b l.length, ← tl b, List.append_assoc, List.append_assoc, comp_pk]
       rfl
      | drop b =>
       rw [exU_cons, coutU_append, exU_cons, cinU_append, show (Un.put l).ex = l.map .p from rfl, show (Un.drop b).ex = List.replicate b .d from rfl, cp, cid] at hc
       have hl := len_step (us := us) (vs := vs) (u := .put (l.drop b)) (v := .drop (b - l.length)) ((Nat.le_total l.length b).elim (fun h => .inl (by simp [fullU]; omega)) (fun h => .inr (by simp [fullU]; omega)))
       have := ih (consF (.put (l.drop b)) us) (consF (.drop (b - l.length)) vs) (FullL.consF hu.cons.2) (FullL.consF hv.cons.2) (by omega) (by rw [ex_consF, ex_consF, coutU_append, cinU_append]; show coutU (List.map _ _) + _ = cinU (List.replicate _ _) + _; rw [cp, cid, List.length_drop]; omega)
       rw [show compUn (n + 1) (.put l :: us) (.drop b :: vs) = compUn n (consF (.put (l.drop b)) us) (consF (.drop (b - l.length)) vs) by simp only [compUn]]
       refine ⟨?_, by simp only [List.length_cons]; omega⟩
       rw [exU_cons, exU_cons, this.1, ex_consF, ex_consF, show (Un.put l).ex = l.map .p from rfl, show (Un.drop b).ex = List.replicate b .d from rfl, map_split l b, rep_split U.d b l.length, ← tl b, List.append_assoc, List.append_assoc, comp_pd]
       rfl
theorem canon_full : ∀ y : List U, FullL (canon y)
 | [] => fun u hu => by cases hu
 | t :: y => by
  have ih := canon_full y
  intro u hu
  rw [canon_cons] at hu
  generalize canon y = c at ih hu
  rcases c with _ | ⟨v, r⟩
  ·cases t <;> (simp [consU] at hu; subst hu; rfl)
  ·have h2 : ∀ x ∈ r, fullU x = true := fun x hx => ih x (by simp [hx])
   have h1 : fullU v = true := ih v (by simp)
   cases t <;> cases v <;> simp only [consU, List.mem_cons] at hu <;> rcases hu with rfl | hu <;> first | rfl | exact h2 _ hu | (rcases hu with rfl | hu <;> first | exact h1 | exact h2 _ hu) | (simp [fullU])
end Go.Proofs.YtekjfodfedpioaaDoor.F
end
section
namespace Go.Proofs.YtekjfodfedpioaaDoor.F
open Go.RowKit Go.Proofs.YtekjfodfedpioaaDoorW.PrintWords Go.Proofs.YtekjfodfedpioaaDoorW.PrintLast Go.Proofs.YtekjfodfedpioaaDoorW.PrintMore
set_option linter.unusedVariables false
set_option linter.unusedSimpArgs false
def RdU : List Un → List Sp → List Int → Prop
 | [], l, t => l = [] ∧ t = []
 | .put q :: r, l, t => (∃ q0 : List Int, l = (Un.put q0).sp :: r.map Un.sp) ∧ t = q
 | .keep n :: r, l, t => l = (Un.keep n).sp :: r.map Un.sp ∧ t = []
 | .drop n :: r, l, t => l = (Un.drop n).sp :: r.map Un.sp ∧ t = []
def szU : Un → Nat
 | .keep n => n
 | .put l => l.length
 | .drop n => n
def hdU : Un → Nat → Un
 | .keep _, m => .keep m
 | .put l, m => .put (l.take m)
 | .drop _, m => .drop m
def tlU : Un → Nat → Un
 | .keep n, m => .keep (n - m)
 | .put l, m => .put (l.drop m)
 | .drop n, m => .drop (n - m)
structure Small (us : List Un) : Prop where
 ok : ∀ u ∈ us, u.ok
 sz : ∀ u ∈ us, szU u ≤ 1099511627776
theorem Small.tail {u : Un} {us : List Un} (h : Small (u :: us)) : Small us := ⟨fun v hv => h.ok v (by simp [hv]), fun v hv => h.sz v (by simp [hv])⟩
theorem Small.consF {u : Un} {us : List Un} (h : Small us) (h1 : u.ok) (h2 : szU u ≤ 1099511627776) : Small (consF u us) := by
 unfold Go.Proofs.YtekjfodfedpioaaDoor.F.consF
 split
 ·refine ⟨fun v hv => ?_, fun v hv => ?_⟩
  ·rcases List.mem_cons.1 hv with rfl | hv
   ·exact h1
   ·exact h.ok v hv
  ·rcases List.mem_cons.1 hv with rfl | hv
   ·exact h2
   ·exact h.sz v hv
 ·exact h
theorem tl_ok {u : Un} (h : u.ok) (m : Nat) : (tlU u m).ok := by
 cases u with
 | put l => exact fun r hr => h r (List.mem_of_mem_drop hr)
 | keep n => trivial
 | drop n => trivial
theorem tl_sz (u : Un) (m : Nat) : szU (tlU u m) ≤ szU u := by
 cases u with
 | put l => simp [tlU, szU]
 | keep n => simp [tlU, szU]
 | drop n => simp [tlU, szU]
theorem Small.tl {u : Un} {us : List Un} (h : Small (u :: us)) (m : Nat) : Small (Go.Proofs.YtekjfodfedpioaaDoor.F.consF (tlU u m) us) :=
 h.tail.consF (tl_ok (h.ok u (by simp)) m) (Nat.le_trans (tl_sz u m) (h.sz u (by simp)))
theorem load_un {us : List Un} (h : Small us) : ∃ t, loadR (us.map Un.sp) = some t ∧ RdU us (us.map Un.sp) t := by
 rcases us with _ | ⟨u, us⟩
 ·exact ⟨[], rfl, rfl, rfl⟩
 ·have h1 := h.ok u (by simp)
  have h2 := h.sz u (by simp)
  cases u with
  | keep n => exact ⟨[], strRunes_enc [] Runes.nil (by simp), rfl, rfl⟩
  | drop n => exact ⟨[], strRunes_enc [] Runes.nil (by simp), rfl, rfl⟩
  | put q => exact ⟨q, strRunes_enc q h1 h2, ⟨q, rfl⟩, rfl⟩
theorem w64_ge (n : Nat) (h : n ≤ 1099511627776) : wrap64 ((n : Nat) : Int) = n := w64 (by omega) (by omega)
theorem size_un {u : Un} {r : List Un} {l : List Sp} {t : List Int} (h : RdU (u :: r) l t) (hs : szU u ≤ 1099511627776) : sizeR l t = (szU u : Int) := by
 cases u with
 | keep n =>
  obtain ⟨rfl, rfl⟩ := h
  show wrap64 ((n : Int) + ((0 : Nat) : Int)) = n
  rw [show (n : Int) + ((0 : Nat) : Int) = (n : Int) by omega]
  exact w64_ge n hs
 | drop n =>
  obtain ⟨rfl, rfl⟩ := h
  show wrap64 ((n : Int) + ((0 : Nat) : Int)) = n
  rw [show (n : Int) + ((0 : Nat) : Int) = (n : Int) by omega]
  exact w64_ge n hs
 | put q =>
  obtain ⟨⟨q0, rfl⟩, rfl⟩ := h
  show wrap64 ((0 : Int) + ((t.length : Nat) : Int)) = t.length
  rw [Int.zero_add]
  exact w64_ge _ hs
theorem take_mark {r : List Un} {k n m : Nat} (hk : ((k : Nat) : Int) ≠ 2) (hr : Small r) (hn : n ≤ 1099511627776) (hm : m ≤ n) :
  (n - m = 0 ∧ ∃ t', takeR (⟨(k : Int), (n : Int), ⟨#[]⟩⟩ :: r.map Un.sp) [] (m : Int) = some (⟨(k : Int), (m : Int), ⟨#[]⟩⟩, r.map Un.sp, t') ∧ RdU r (r.map Un.sp) t') ∨
  (n - m ≠ 0 ∧ takeR (⟨(k : Int), (n : Int), ⟨#[]⟩⟩ :: r.map Un.sp) [] (m : Int) = some (⟨(k : Int), (m : Int), ⟨#[]⟩⟩, ⟨(k : Int), ((n - m : Nat) : Int), ⟨#[]⟩⟩ :: r.map Un.sp, [])) := by
 have e1 : wrap64 ((n : Int) - (m : Int)) = ((n - m : Nat) : Int) := by
  rw [show (n : Int) - (m : Int) = ((n - m : Nat) : Int) by omega]
  exact w64_ge _ (by omega)
 have e2 : sizeR ((⟨(k : Int), wrap64 ((n : Int) - (m : Int)), ⟨#[]⟩⟩ : Sp) :: r.map Un.sp) [] = ((n - m : Nat) : Int) := by
  show wrap64 (wrap64 ((n : Int) - (m : Int)) + ((0 : Nat) : Int)) = _
  rw [e1, show ((n - m : Nat) : Int) + ((0 : Nat) : Int) = ((n - m : Nat) : Int) by omega]
  exact w64_ge _ (by omega)
 by_cases h0 : n - m = 0
 ·refine .inl ⟨h0, ?_⟩
  obtain ⟨t2, e3, hr2⟩ := load_un hr
  refine ⟨t2, ?_, hr2⟩
  rw [takeR, if_neg hk, e2, if_pos (by omega), e3]
  rfl
 ·refine .inr ⟨h0, ?_⟩
  rw [takeR, if_neg hk, e2, if_neg (by omega), e1]
theorem take_un {u : Un} {r : List Un} {l : List Sp} {t : List Int} {m : Nat} (h : RdU (u :: r) l t) (hs : Small (u :: r)) (hm : m ≤ szU u) :
  ∃ l' t', takeR l t (m : Int) = some ((hdU u m).sp, l', t') ∧ RdU (consF (tlU u m) r) l' t' := by
 have hz := hs.sz u (by simp)
 have hk := hs.ok u (by simp)
 cases u with
 | keep n =>
  obtain ⟨rfl, rfl⟩ := h
  rcases take_mark (k := 1) (n := n) (by decide) hs.tail hz hm with ⟨h0, t', e, hr⟩ | ⟨h0, e⟩
  ·exact ⟨_, t', e, by rw [show consF (tlU (.keep n) m) r = r by simp [tlU, consF, fullU]; omega]; exact hr⟩
  ·exact ⟨_, _, e, by rw [show consF (tlU (.keep n) m) r = .keep (n - m) :: r by simp [tlU, consF, fullU]; omega]; exact ⟨rfl, rfl⟩⟩
 | drop n =>
  obtain ⟨rfl, rfl⟩ := h
  rcases take_mark (k := 3) (n := n) (by decide) hs.tail hz hm with ⟨h0, t', e, hr⟩ | ⟨h0, e⟩
  ·exact ⟨_, t', e, by rw [show consF (tlU (.drop n) m) r = r by simp [tlU, consF, fullU]; omega]; exact hr⟩
  ·exact ⟨_, _, e, by rw [show consF (tlU (.drop n) m) r = .drop (n - m) :: r by simp [tlU, consF, fullU]; omega]; exact ⟨rfl, rfl⟩⟩
 | put q =>
  obtain ⟨⟨q0, rfl⟩, rfl⟩ := h
  have hm' : m ≤ t.length := hm
  have hz' : t.length ≤ 1099511627776 := hz
  have e0 : runesBytes (t.take m) = encT (t.take m) := runesBytes_enc _ (fun x hx => hk x (List.mem_of_mem_take hx))
  have e2 : sizeR ((Un.put q0).sp :: r.map Un.sp) (t.drop m) = ((t.length - m : Nat) : Int) := by
   show wrap64 ((0 : Int) + (((t.drop m).length : Nat) : Int)) = _
   rw [Int.zero_add, List.length_drop]
   exact w64_ge _ (by omega)
  rw [takeR, if_pos (show (Un.put q0).sp.f0 = 2 from rfl), if_pos ⟨by omega, by omega⟩, Int.toNat_natCast, e2, e0]
  by_cases h0 : t.length - m = 0
  ·obtain ⟨t2, e3, hr2⟩ := load_un hs.tail
   rw [if_pos (by omega), e3]
   refine ⟨_, t2, rfl, ?_⟩
   rw [show consF (tlU (.put t) m) r = r by simp [tlU, consF, fullU]; omega]
   exact hr2
  ·rw [if_neg (by omega)]
   refine ⟨_, _, rfl, ?_⟩
   rw [show consF (tlU (.put t) m) r = .put (t.drop m) :: r by simp [tlU, consF, fullU]; omega]
   exact ⟨⟨q0, rfl⟩, rfl⟩
theorem take_all {u : Un} {r : List Un} {l : List Sp} {t : List Int} (h : RdU (u :: r) l t) (hs : Small (u :: r)) :
  ∃ l' t', takeR l t (sizeR l t) = some (u.sp, l', t') ∧ RdU r l' t' := by
 obtain ⟨l', t', e, hr⟩ := take_un h hs (Nat.le_refl _)
 refine ⟨l', t', ?_, ?_⟩
 ·rw [size_un h (hs.sz u (by simp)), e]
  cases u with
  | keep n => rfl
  | drop n => rfl
  | put q => rw [show hdU (.put q) (szU (.put q)) = .put q by simp [hdU, szU]]
 ·have e2 : consF (tlU u (szU u)) r = r := by
   cases u <;> simp [tlU, szU, consF, fullU]
  rwa [e2] at hr
theorem kind_un {u : Un} {r : List Un} {l : List Sp} {t : List Int} (h : RdU (u :: r) l t) : kindR l = u.sp.f0 := by
 cases u with
 | keep n => obtain ⟨rfl, rfl⟩ := h; rfl
 | drop n => obtain ⟨rfl, rfl⟩ := h; rfl
 | put q => obtain ⟨⟨q0, rfl⟩, rfl⟩ := h; rfl
theorem kind_nil {l : List Sp} {t : List Int} (h : RdU [] l t) : kindR l = 0 := by obtain ⟨rfl, rfl⟩ := h; rfl
theorem mn_nat (a b : Nat) : mn (a : Int) (b : Int) = ((min a b : Nat) : Int) := by unfold mn; split <;> omega
theorem take_min' (l : List Int) (b : Nat) : l.take (min l.length b) = l.take b := by
 rcases Nat.le_total l.length b with h | h
 ·rw [Nat.min_eq_left h, List.take_length, List.take_of_length_le h]
 ·rw [Nat.min_eq_right h]
theorem drop_min' (l : List Int) (b : Nat) : l.drop (min l.length b) = l.drop b := by
 rcases Nat.le_total l.length b with h | h
 ·rw [Nat.min_eq_left h, List.drop_length, List.drop_of_length_le h]
 ·rw [Nat.min_eq_right h]
theorem both_step {u v : Un} {us vs : List Un} {lx ly : List Sp} {tx ty : List Int} (hx : RdU (u :: us) lx tx) (hy : RdU (v :: vs) ly ty) (hu : Small (u :: us)) (hv : Small (v :: vs)) :
  ∃ lx' tx' ly' ty', takeR lx tx (mn (sizeR lx tx) (sizeR ly ty)) = some ((hdU u (min (szU u) (szU v))).sp, lx', tx') ∧ takeR ly ty (mn (sizeR lx tx) (sizeR ly ty)) = some ((hdU v (min (szU u) (szU v))).sp, ly', ty') ∧
   RdU (consF (tlU u (min (szU u) (szU v))) us) lx' tx' ∧ RdU (consF (tlU v (min (szU u) (szU v))) vs) ly' ty' ∧
   (consF (tlU u (min (szU u) (szU v))) us).length + (consF (tlU v (min (szU u) (szU v))) vs).length ≤ us.length + vs.length + 1 := by
 obtain ⟨lx', tx', e1, h1⟩ := take_un hx hu (Nat.min_le_left (szU u) (szU v))
 obtain ⟨ly', ty', e2, h2⟩ := take_un hy hv (Nat.min_le_right (szU u) (szU v))
 refine ⟨lx', tx', ly', ty', ?_, ?_, h1, h2, ?_⟩
 ·rw [size_un hx (hu.sz u (by simp)), size_un hy (hv.sz v (by simp)), mn_nat]; exact e1
 ·rw [size_un hx (hu.sz u (by simp)), size_un hy (hv.sz v (by simp)), mn_nat]; exact e2
 ·refine len_step ?_
  have full0 : ∀ (w : Un) (m : Nat), szU w ≤ m → fullU (tlU w m) = false := by
   intro w m hm
   cases w with
   | keep n => simp [tlU, fullU, szU] at *; omega
   | drop n => simp [tlU, fullU, szU] at *; omega
   | put q => simp [tlU, fullU, szU] at *; omega
  rcases Nat.le_total (szU u) (szU v) with h | h
  ·exact .inl (full0 u _ (by omega))
  ·exact .inr (full0 v _ (by omega))
theorem composeL_is : ∀ (n : Nat) (us vs : List Un) (lx : List Sp) (tx : List Int) (ly : List Sp) (ty : List Int) (out : List Sp), Small us → Small vs → FullL us → FullL vs → us.length + vs.length ≤ n → out.length + n ≤ 4398046511104 →
  RdU us lx tx → RdU vs ly ty → composeL (n + 1) lx tx ly ty out = some (out ++ (compUn n us vs).map Un.sp) := by
 intro n
 induction n with
 | zero =>
  intro us vs lx tx ly ty out _ _ _ _ h _ hx hy
  obtain rfl : us = [] := List.eq_nil_of_length_eq_zero (by omega)
  obtain rfl : vs = [] := List.eq_nil_of_length_eq_zero (by omega)
  rw [composeL, kind_nil hx, kind_nil hy]
  simp [compUn]
 | succ n ih =>
  intro us vs lx tx ly ty out hu hv fu fv hl ho hx hy
  have hlt : out.length < 4398046511104 := by omega
  rcases vs with _ | ⟨v, vs⟩
  ·rcases us with _ | ⟨u, us⟩
   ·rw [composeL, kind_nil hx, kind_nil hy]
    simp [compUn]
   ·simp only [List.length_cons] at hl
    cases u with
    | drop m =>
     obtain ⟨lx', tx', e, hx'⟩ := take_all hx hu
     rw [composeL, kind_nil hy, kind_un hx, if_neg (by decide), if_pos (show (Un.drop m).sp.f0 = 3 from rfl), e]
     simp only [Option.bind_some]
     rw [if_pos hlt, ih us [] lx' tx' ly ty _ hu.tail hv fu.cons.2 fv (by simp only [List.length_nil] at hl ⊢; omega) (by simp; omega) hx' hy]
     simp [compUn]
    | keep a =>
     rw [composeL, kind_nil hy, kind_un hx, if_neg (by decide), if_neg (show ¬ (Un.keep a).sp.f0 = 3 by simp [Un.sp]), if_pos (.inr rfl)]
     simp [compUn]
    | put q =>
     rw [composeL, kind_nil hy, kind_un hx, if_neg (by decide), if_neg (show ¬ (Un.put q).sp.f0 = 3 by simp [Un.sp]), if_pos (.inr rfl)]
     simp [compUn]
  ·simp only [List.length_cons] at hl
   by_cases hp : v.sp.f0 = 2
   ·cases v with
    | keep b => cases hp
    | drop b => cases hp
    | put q =>
     obtain ⟨ly', ty', e, hy'⟩ := take_all hy hv
     rw [composeL, kind_un hy, if_pos hp, e]
     simp only [Option.bind_some]
     rw [if_pos hlt, ih us vs lx tx ly' ty' _ hu hv.tail fu fv.cons.2 (by omega) (by simp; omega) hx hy']
     simp [compUn]
   ·rcases us with _ | ⟨u, us⟩
    ·rw [composeL, kind_un hy, kind_nil hx, if_neg hp, if_neg (by decide), if_pos (.inl rfl)]
     cases v with
     | put q => exact (hp rfl).elim
     | keep b => simp [compUn]
     | drop b => simp [compUn]
    ·simp only [List.length_cons] at hl
     by_cases hd : u.sp.f0 = 3
     ·cases u with
      | keep b => cases hd
      | put q => cases hd
      | drop m =>
       obtain ⟨lx', tx', e, hx'⟩ := take_all hx hu
       rw [composeL, kind_un hy, kind_un hx, if_neg hp, if_pos hd, e]
       simp only [Option.bind_some]
       rw [if_pos hlt, ih us (v :: vs) lx' tx' ly ty _ hu.tail hv fu.cons.2 fv (by simp only [List.length_cons]; omega) (by simp; omega) hx' hy]
       cases v with
       | put q => exact (hp rfl).elim
       | keep b => simp [compUn]
       | drop b => simp [compUn]
     ·obtain ⟨lx', tx', ly', ty', e1, e2, hx', hy', hlen⟩ := both_step hx hy hu hv
      have hne : ¬ (u.sp.f0 = 0 ∨ v.sp.f0 = 0) := by
       rintro (h | h)
       ·cases u <;> cases h
       ·cases v <;> cases h
      rw [composeL, kind_un hy, kind_un hx, if_neg hp, if_neg hd, if_neg hne, e1, Option.bind_some, e2, Option.bind_some]
      simp only
      have IH := fun o (ho2 : o.length + n ≤ 4398046511104) => ih _ _ lx' tx' ly' ty' o (hu.tl (min (szU u) (szU v))) (hv.tl (min (szU u) (szU v))) (FullL.consF fu.cons.2) (FullL.consF fv.cons.2) (by omega) ho2 hx' hy'
      cases v with
      | put q => exact (hp rfl).elim
      | keep b =>
       cases u with
       | drop m => exact (hd rfl).elim
       | keep a =>
        rw [if_pos (show (hdU (.keep b) (min (szU (.keep a)) (szU (.keep b)))).sp.f0 = 1 from rfl), if_pos hlt, IH _ (by simp; omega)]
        simp only [compUn, hdU, tlU, szU, List.map_cons, List.append_assoc, List.singleton_append]
        rw [show a - min a b = a - b by omega, show b - min a b = b - a by omega]
       | put l =>
        rw [if_pos (show (hdU (.keep b) (min (szU (.put l)) (szU (.keep b)))).sp.f0 = 1 from rfl), if_pos hlt, IH _ (by simp; omega)]
        simp only [compUn, hdU, tlU, szU, List.map_cons, List.append_assoc, List.singleton_append]
        rw [take_min', drop_min', show b - min l.length b = b - l.length by omega]
      | drop b =>
       cases u with
       | drop m => exact (hd rfl).elim
       | keep a =>
        rw [if_neg (show ¬ (hdU (.drop b) (min (szU (.keep a)) (szU (.drop b)))).sp.f0 = 1 by simp [hdU, Un.sp]), if_pos (show (hdU (.keep a) (min (szU (.keep a)) (szU (.drop b)))).sp.f0 = 1 from rfl), if_pos hlt, IH _ (by simp; omega)]
        simp only [compUn, hdU, tlU, szU, List.map_cons, List.append_assoc, List.singleton_append]
        rw [show a - min a b = a - b by omega, show b - min a b = b - a by omega]
       | put l =>
        rw [if_neg (show ¬ (hdU (.drop b) (min (szU (.put l)) (szU (.drop b)))).sp.f0 = 1 by simp [hdU, Un.sp]), if_neg (show ¬ (hdU (.put l) (min (szU (.put l)) (szU (.drop b)))).sp.f0 = 1 by simp [hdU, Un.sp]), IH _ (by omega)]
        simp only [compUn, hdU, tlU, szU]
        rw [drop_min', show b - min l.length b = b - l.length by omega]
end Go.Proofs.YtekjfodfedpioaaDoor.F
end
section
namespace Go.Proofs.YtekjfodfedpioaaDoor.F
open Go.RowKit Go.Proofs.YtekjfodfedpioaaDoorW.PrintWords Go.Proofs.YtekjfodfedpioaaDoorW.PrintLast Go.Proofs.YtekjfodfedpioaaDoorW.PrintMore
set_option linter.unusedVariables false
set_option linter.unusedSimpArgs false
theorem sizeS_cout : ∀ us : List Un, sizeS (us.map Un.sp) ≤ 4 * (us.map Un.cout).sum
 | [] => Nat.zero_le _
 | u :: us => by
  have h2 := sizeS_cout us
  have h1 : u.sp.f2.size ≤ 4 * u.cout := by
   cases u with
   | keep n => exact Nat.zero_le _
   | put l => exact (encT_size l).2
   | drop n => exact Nat.zero_le _
  unfold sizeS at h2 ⊢
  simp only [List.map_cons, List.sum_cons]
  omega
theorem normalOk_is {us : List Un} (h : Ok us) : Ev (fun k => normal_Of.f k (us.map Un.sp)) ((canon (exU us)).map Un.sp) := by
 have h1 := h.len
 have h2 := h.cin
 have h3 := h.cout
 have := sizeS_cout us
 rw [← norm_ex us (by omega)]
 exact normal_is _ (by rw [List.length_map]; omega) (by omega)
theorem sz_sum : ∀ {us : List Un} {u : Un}, u ∈ us → szU u ≤ (us.map Un.cin).sum + (us.map Un.cout).sum := by
 intro us
 induction us with
 | nil => intro u h; cases h
 | cons v us ih =>
  intro u h
  simp only [List.map_cons, List.sum_cons]
  rcases List.mem_cons.1 h with rfl | h
  ·cases u with
   | keep n => show n ≤ n + _ + _; omega
   | put l => show l.length ≤ _ + (l.length + _); omega
   | drop n => show n ≤ n + _ + _; omega
  ·have := ih h
   omega
theorem canon_small {us : List Un} (h : Ok us) (hc : (us.map Un.cout).sum ≤ 4194304) : Small (canon (exU us)) := by
 refine ⟨ok_canon _ (runesU_ex us h.ok), fun u hu => ?_⟩
 have := sz_sum hu
 have h1 := canon_in (exU us)
 have h2 := canon_out (exU us)
 have h3 := cinU_ex us
 have h4 := coutU_ex us
 have h5 := h.cin
 omega
theorem newR_is {us : List Un} (h : Ok us) (hc : (us.map Un.cout).sum ≤ 4194304) : ∃ t, Ev (fun k => newR k (us.map Un.sp)) ((canon (exU us)).map Un.sp, t) ∧ RdU (canon (exU us)) ((canon (exU us)).map Un.sp) t := by
 obtain ⟨t, e, hr⟩ := load_un (canon_small h hc)
 refine ⟨t, ?_, hr⟩
 unfold newR
 exact Ev.bind (normalOk_is h) (ev_some e (Ev.now _))
theorem canon_len_sum {us : List Un} (h : Ok us) (hc : (us.map Un.cout).sum ≤ 4194304) : (canon (exU us)).length ≤ 5242880 := by
 have h0 := canon_length (exU us)
 have h1 := length_two (exU us)
 have h3 := cinU_ex us
 have h4 := coutU_ex us
 have h5 := h.cin
 omega
theorem compose_is {us vs : List Un} (hu : Ok us) (hv : Ok vs) (h1 : (us.map Un.cout).sum ≤ 4194304) (h2 : (vs.map Un.cout).sum ≤ 4194304) (hc : (us.map Un.cout).sum = (vs.map Un.cin).sum) :
  Ev (fun k => compose_Of.f k (us.map Un.sp) (vs.map Un.sp)) ((canon (compU (exU us) (exU vs))).map Un.sp, 0) := by
 obtain ⟨tx, ex, rx⟩ := newR_is hu h1
 obtain ⟨ty, ey, ry⟩ := newR_is hv h2
 have l1 := canon_len_sum hu h1
 have l2 := canon_len_sum hv h2
 have hcu : coutU (exU us) = cinU (exU vs) := by rw [coutU_ex, cinU_ex]; exact hc
 have eL := composeL_is ((canon (exU us)).length + (canon (exU vs)).length) _ _ _ tx _ ty [] (canon_small hu h1) (canon_small hv h2) (canon_full _) (canon_full _) (Nat.le_refl _) (by simp only [List.length_nil]; omega) rx ry
 obtain ⟨ce, lenC⟩ := compUn_ex ((canon (exU us)).length + (canon (exU vs)).length) _ _ (canon_full (exU us)) (canon_full (exU vs)) (Nat.le_refl _) (by rw [ex_canon, ex_canon]; exact hcu)
 rw [ex_canon, ex_canon] at ce
 obtain ⟨s1, s2⟩ := comp_sizes (exU us) (exU vs) hcu
 generalize compUn ((canon (exU us)).length + (canon (exU vs)).length) (canon (exU us)) (canon (exU vs)) = out at eL ce lenC
 have o1 := cinU_ex out
 have o2 := coutU_ex out
 rw [ce, s1, cinU_ex us] at o1
 rw [ce, s2, coutU_ex vs] at o2
 have hz := sizeS_cout out
 have hci := hu.cin
 unfold compose_Of.f
 refine Ev.bind (opMay_is hu) (ev_if_pos rfl (Ev.bind (opMay_is hv) (ev_if_pos rfl ?_)))
 refine Ev.bind (opOut_is hu) (Ev.bind (opIn_is hv) (ev_if_pos (by omega) ?_))
 refine Ev.bind ex (Ev.bind ey ?_)
 refine Ev.bind (Ev.of (fun k => composeL.mono k _ _ _ _ _) eL) ?_
 rw [List.nil_append]
 have en := normal_is (out.map Un.sp) (by rw [List.length_map]; omega) (by omega)
 rw [norm_ex out (by omega), ce] at en
 exact Ev.bind en (Ev.now _)
theorem compOk {x y : List U} {a b : Nat} (hx : RunesU x) (hy : RunesU y) (hc : coutU x = cinU y) (h1 : cinU x ≤ 1048576) (h2 : coutU y ≤ 1048576) : Ok (canon (compU x y)) := by
 obtain ⟨s1, s2⟩ := comp_sizes x y hc
 exact canon_ok (comp_runes x y hx hy) (by omega) (by omega)
end Go.Proofs.YtekjfodfedpioaaDoor.F
end
section
namespace Go.Proofs.YtekjfodfedpioaaDoor.F
open Go.RowKit Go.Proofs.YtekjfodfedpioaaDoorW.PrintWords Go.Proofs.YtekjfodfedpioaaDoorW.PrintLast Go.Proofs.YtekjfodfedpioaaDoorW.PrintMore
set_option linter.unusedVariables false
set_option linter.unusedSimpArgs false
def Un.fewB : Un → Prop
 | .keep n => n ≤ 1048576
 | .put l => l.length ≤ 6 ∧ ∀ r ∈ l, r ∈ alpha
 | .drop n => n ≤ 1048576
structure MadeB (us : List Un) (n : Nat) : Prop where
 few : ∀ u ∈ us, u.fewB
 len : us.length ≤ 13
 cin : (us.map Un.cin).sum = n
theorem fitB_loop (l : List Sp) (hl : l.length ≤ maxLen) (hw : ∀ x ∈ l, (Lit.int .i64 x.f0).wf = true ∧ (Lit.int .i64 x.f1).wf = true ∧ x.f2.size ≤ maxLen) :
  ∀ (r pre : List Sp) (m : Nat) (acc : List Sp), l = pre ++ r → acc.length = pre.length → pre.length ≤ 12 → m ≤ 1048576 →
   ∃ us : List Un, Ev (fun k => epitomeref04_Fit.l0 k l (m : Int) acc (pre.length : Int)) (acc ++ us.map Un.sp) ∧ (∀ u ∈ us, u.fewB) ∧ us.length + pre.length ≤ 13 ∧ (us.map Un.cin).sum = m
 | [], pre, m, acc, h, ha, hp, hm => by
  refine ⟨if m = 0 then [] else [Un.keep m], ?_, ?_, ?_, ?_⟩
  ·refine Ev.step (f := fun k => epitomeref04_Fit.j1 k l (m : Int) acc (pre.length : Int) false) (fun k => ?_) (fit04_end l m acc _ (by omega))
   rw [epitomeref04_Fit.l0, if_neg (by subst h; simp)]
  ·intro u hu
   by_cases h0 : m = 0
   ·rw [if_pos h0] at hu; simp at hu
   ·rw [if_neg h0] at hu; simp at hu; subst hu; exact hm
  ·split <;> simp <;> omega
  ·split <;> simp [Un.cin] <;> omega
 | x :: r, pre, m, acc, h, ha, hp, hm => by
  have hlt : (pre.length : Int) < (l.length : Int) := by subst h; simp <;> omega
  by_cases h12 : pre.length = 12
  ·refine ⟨if m = 0 then [] else [Un.keep m], ?_, ?_, ?_, ?_⟩
   ·refine Ev.step (f := fun k => epitomeref04_Fit.j1 k l (m : Int) acc (pre.length : Int) false) (fun k => ?_) (fit04_end l m acc _ (by omega))
    rw [epitomeref04_Fit.l0, if_pos hlt, show decide ((pre.length : Int) < 12) = false by simp; omega]
   ·intro u hu
    by_cases h0 : m = 0
    ·rw [if_pos h0] at hu; simp at hu
    ·rw [if_neg h0] at hu; simp at hu; subst hu; exact hm
   ·split <;> simp <;> omega
   ·split <;> simp [Un.cin] <;> omega
  ·have hx := hw x (by rw [h]; simp)
   have b0 := wf_bounds hx.1
   have b1 := wf_bounds hx.2.1
   have hrd : rd_T55 l (pre.length : Int) = x := by rw [h]; exact rdS_at rfl
   have hk := kind_range x.f0 b0.1 b0.2
   have hn := many_range x.f1 b1.1 b1.2
   have w1 : wrap64 ((pre.length : Int) + 1) = ((pre ++ [x]).length : Int) := by rw [w64 (by omega) (by omega)]; simp
   generalize hkk : wrap64 (1 + Int.tmod (wrap64 (Int.tmod x.f0 3 + 3)) 3) = kk at hk
   generalize hnn : Int.tmod (wrap64 (Int.tmod x.f1 7 + 7)) 7 = nn at hn
   have two : ∀ (m2 : Nat) (u : Un), m2 ≤ 1048576 → u.fewB → u.cin + m2 = m →
     ∃ us : List Un, Ev (fun k => epitomeref04_Fit.l0 k l (m2 : Int) (acc ++ [u.sp]) (wrap64 ((pre.length : Int) + 1))) (acc ++ us.map Un.sp) ∧ (∀ u ∈ us, u.fewB) ∧ us.length + pre.length ≤ 13 ∧ (us.map Un.cin).sum = m := by
    intro m2 u hm2 hu hc
    obtain ⟨us, e1, e2, e3, e4⟩ := fitB_loop l hl hw r (pre ++ [x]) m2 (acc ++ [u.sp]) (by simp [h]) (by simp [ha]) (by simp; omega) hm2
    refine ⟨u :: us, ?_, ?_, ?_, ?_⟩
    ·rw [w1]
     simpa using e1
    ·intro v hv
     rcases List.mem_cons.1 hv with rfl | hv
     ·exact hu
     ·exact e2 v hv
    ·simp at e3 ⊢; omega
    ·simp; omega
   have go : ∀ {g : Nat → Option (List Sp)} (w : List Sp), Ev g w → (∀ k, epitomeref04_Fit.j1 (k + 1) l (m : Int) acc (pre.length : Int) true = g k) → Ev (fun k => epitomeref04_Fit.l0 k l (m : Int) acc (pre.length : Int)) w := by
    intro g w hg hj
    refine Ev.step (f := fun k => epitomeref04_Fit.j1 k l (m : Int) acc (pre.length : Int) true) (fun k => ?_) (Ev.step hj hg)
    rw [epitomeref04_Fit.l0, if_pos hlt, show decide ((pre.length : Int) < 12) = true by simp; omega]
   by_cases h2 : kk = 2
   ·have hmn := mn_le (x.f2.size : Int) 6
    obtain ⟨us, e1, e2⟩ := two m (Un.put (fitRunes (x.f2.extract 0 (mn (x.f2.size : Int) 6).toNat))) hm ⟨by rw [fitRunes_length]; have := extract_size x.f2 (mn (x.f2.size : Int) 6).toNat; omega, fitRunes_mem _⟩ (by simp [Un.cin])
    refine ⟨us, go _ ?_ (fun k => by rw [epitomeref04_Fit.j1, if_pos rfl, if_pos (by omega), if_pos hlt, hrd, hkk, if_pos h2, if_pos (by omega), if_pos (by omega)]), e2⟩
    refine Ev.bind (fit01_is _ (by have := extract_size x.f2 (mn (x.f2.size : Int) 6).toNat; omega)) (ev_if_pos (by omega) ?_)
    rw [h2]
    exact e1
   ·have hmn := mn_le nn m
    have hmn0 : 0 ≤ mn nn m := by omega
    obtain ⟨v, hv⟩ := Int.eq_ofNat_of_zero_le hmn0
    have hw2 : wrap64 ((m : Int) - mn nn m) = ((m - v : Nat) : Int) := by rw [w64 (by omega) (by omega)]; omega
    obtain ⟨us, e1, e2⟩ := two (m - v) (if kk = 1 then Un.keep v else Un.drop v) (by omega) (by split <;> (show v ≤ 1048576; omega)) (by split <;> (show v + (m - v) = m; omega))
    refine ⟨us, go _ ?_ (fun k => by rw [epitomeref04_Fit.j1, if_pos rfl, if_pos (by omega), if_pos hlt, hrd, hkk, if_neg h2, if_pos (by omega), hnn, hw2, hv]), e2⟩
    have hsp : (⟨kk, (v : Int), ⟨#[]⟩⟩ : Sp) = (if kk = 1 then Un.keep v else Un.drop v).sp := by
     rcases hk with rfl | rfl | rfl
     ·rfl
     ·exact absurd rfl h2
     ·rfl
    rw [hsp]
    exact e1
theorem fitB_is (l : List Sp) (hl : l.length ≤ maxLen) (hw : ∀ x ∈ l, (Lit.int .i64 x.f0).wf = true ∧ (Lit.int .i64 x.f1).wf = true ∧ x.f2.size ≤ maxLen) (n : Nat) (hn : n ≤ 1048576) :
  ∃ us, Ev (fun k => epitomeref04_Fit.f k l (n : Int)) (us.map Un.sp) ∧ MadeB us n := by
 obtain ⟨us, e1, e2, e3, e4⟩ := fitB_loop l hl hw l [] n [] rfl rfl (by simp) hn
 refine ⟨us, ?_, e2, by simpa using e3, e4⟩
 unfold epitomeref04_Fit.f
 simpa using e1
theorem cout_fewB : ∀ us : List Un, (∀ u ∈ us, u.fewB) → (us.map Un.cout).sum ≤ (us.map Un.cin).sum + 6 * us.length
 | [], _ => Nat.zero_le _
 | u :: us, h => by
  have h2 := cout_fewB us (fun v hv => h v (by simp [hv]))
  have h1 : u.cout ≤ u.cin + 6 := by
   have := h u (by simp)
   cases u with
   | keep n => show n ≤ n + 6; omega
   | put l => exact Nat.le_trans this.1 (by show 6 ≤ 0 + 6; omega)
   | drop n => exact Nat.zero_le _
  simp only [List.map_cons, List.sum_cons, List.length_cons]
  omega
structure FitB (us : List Un) (n : Nat) : Prop where
 ok : Ok us
 len : us.length ≤ 13
 cin : (us.map Un.cin).sum = n
 cinU : cinU (exU us) = n
 cout : (us.map Un.cout).sum ≤ n + 78
 coutU : coutU (exU us) = (us.map Un.cout).sum
 runes : RunesU (exU us)
theorem madeB_fit {us : List Un} {n : Nat} (h : MadeB us n) (hn : n ≤ 1048576) : FitB us n := by
 have h1 := h.len
 have h2 := cout_fewB us h.few
 have h3 := h.cin
 have ok : Ok us := ⟨fun u hu => by
  have := h.few u hu
  cases u with
  | put l => exact fun r hr => alpha_rune r (this.2 r hr)
  | keep n => trivial
  | drop n => trivial, by omega, by omega, by omega⟩
 exact ⟨ok, h1, h3, by rw [cinU_ex]; exact h3, by omega, coutU_ex us, runesU_ex us ok.ok⟩
theorem fitB (l : List Sp) (hl : l.length ≤ maxLen) (hw : ∀ x ∈ l, (Lit.int .i64 x.f0).wf = true ∧ (Lit.int .i64 x.f1).wf = true ∧ x.f2.size ≤ maxLen) (n : Nat) (hn : n ≤ 1048576) :
  ∃ us, Ev (fun k => epitomeref04_Fit.f k l (n : Int)) (us.map Un.sp) ∧ FitB us n := by
 obtain ⟨us, e, h⟩ := fitB_is l hl hw n hn
 exact ⟨us, e, madeB_fit h hn⟩
end Go.Proofs.YtekjfodfedpioaaDoor.F
end
section
namespace Go.Proofs.YtekjfodfedpioaaDoor.F
open Go.RowKit Go.Proofs.YtekjfodfedpioaaDoorW.PrintWords Go.Proofs.YtekjfodfedpioaaDoorW.PrintLast Go.Proofs.YtekjfodfedpioaaDoorW.PrintMore
set_option linter.unusedVariables false
set_option linter.unusedSimpArgs false
def cells (B : List (List Int)) (q : List Int) (m : Nat) : List ByteArray := (B ++ q :: List.replicate m []).map encT
theorem cells_get (B : List (List Int)) (q : List Int) (m : Nat) : (cells B q m).getD B.length ⟨#[]⟩ = encT q := by
 unfold cells
 simp [List.getD_eq_getElem?_getD]
theorem cells_set (B : List (List Int)) (q p : List Int) (m : Nat) : (cells B q m).set B.length (encT p) = cells B p m := by
 unfold cells
 simp [List.set_append]
theorem cells_more (B : List (List Int)) (q : List Int) (n m : Nat) (h : n + 1 ≤ m) : cells B q m = cells (B ++ q :: List.replicate n []) [] (m - (n + 1)) := by
 unfold cells
 congr 1
 have e : List.replicate m ([] : List Int) = List.replicate n [] ++ [] :: List.replicate (m - (n + 1)) [] := by
  rw [← List.replicate_succ, List.replicate_append_replicate]
  congr 1
  omega
 rw [e]
 simp
theorem fill_at (C G : List Bool) (n : Nat) (b : Bool) : fillG (C ++ G) C.length n b = C ++ (List.replicate n b ++ G.drop n) := by
 unfold fillG
 simp [List.drop_append]
theorem bytes_none (s : ByteArray) : s ++ ⟨#[]⟩ = s := by
 apply ByteArray.ext
 simp [ByteArray.data_append]
theorem gapsL_is : ∀ (us : List Un) (B : List (List Int)) (q : List Int) (m : Nat) (C G : List Bool), C.length = B.length → B.length + (us.map Un.cin).sum ≤ 512 → (us.map Un.cin).sum ≤ m → (us.map Un.cin).sum ≤ G.length →
  q.length + (us.map Un.cout).sum ≤ 1099511627776 →
  ∃ m' G', gapsL (us.map Un.sp) B.length (cells B q m) (C ++ G) = some ((B ++ preq q (gpP (exU us)) ++ List.replicate m' []).map encT, C ++ gpG (exU us) ++ G')
 | [], B, q, m, C, G, hC, h1, h2, h3, h4 => ⟨m, G, by simp [gapsL, cells, exU, gpP, gpG, preq]⟩
 | u :: us, B, q, m, C, G, hC, h1, h2, h3, h4 => by
  simp only [List.map_cons, List.sum_cons] at h1 h2 h3 h4
  have hsz := (encT_size q).2
  cases u with
  | put l =>
   have h1 : B.length + (0 + (us.map Un.cin).sum) ≤ 512 := h1
   have h2 : 0 + (us.map Un.cin).sum ≤ m := h2
   have h3 : 0 + (us.map Un.cin).sum ≤ G.length := h3
   have h4 : q.length + (l.length + (us.map Un.cout).sum) ≤ 1099511627776 := h4
   have hl := (encT_size l).2
   obtain ⟨m', G', ih⟩ := gapsL_is us B (q ++ l) m C G hC (by omega) (by omega) (by omega) (by simp; omega)
   refine ⟨m', G', ?_⟩
   rw [List.map_cons, gapsL, cells_get]
   rw [show (Un.put l).sp.f1.toNat = 0 from rfl, show (Un.put l).sp.f2 = encT l from rfl, if_pos (by omega), ← encT_append, cells_set, ← hC, fill_at, hC]
   simp only [Nat.add_zero, List.replicate_zero, List.nil_append, List.drop_zero]
   rw [ih, exU_cons]
   rw [show (Un.put l).ex = l.map .p from rfl, gpP_put, gpG_put, preq_preq]
  | keep n =>
   have h1 : B.length + (n + (us.map Un.cin).sum) ≤ 512 := h1
   have h2 : n + (us.map Un.cin).sum ≤ m := h2
   have h3 : n + (us.map Un.cin).sum ≤ G.length := h3
   have h4 : q.length + (n + (us.map Un.cout).sum) ≤ 1099511627776 := h4
   rw [List.map_cons, gapsL, cells_get]
   rw [show (Un.keep n).sp.f1.toNat = n from Int.toNat_natCast n, show (Un.keep n).sp.f2 = ⟨#[]⟩ from rfl, if_pos ⟨by omega, by rw [size_none]; omega⟩, bytes_none, cells_set, ← hC, fill_at, hC, exU_cons]
   rw [show (Un.keep n).ex = List.replicate n .k from rfl, gpP_keep, gpG_keep, show ((Un.keep n).sp.f0 == 3) = false from rfl]
   cases n with
   | zero =>
    obtain ⟨m', G', ih⟩ := gapsL_is us B q m C G hC (by omega) (by omega) (by omega) (by omega)
    exact ⟨m', G', by simpa using ih⟩
   | succ n =>
    obtain ⟨m', G', ih⟩ := gapsL_is us (B ++ q :: List.replicate n []) [] (m - (n + 1)) (C ++ List.replicate (n + 1) false) (G.drop (n + 1)) (by simp [hC]) (by simp; omega) (by omega) (by rw [List.length_drop]; omega) (by simp; omega)
    refine ⟨m', G', ?_⟩
    rw [cells_more _ _ n m (by omega)]
    rw [preq_nil (gpP_ne _)] at ih
    have e : B.length + (n + 1) = (B ++ q :: List.replicate n ([] : List Int)).length := by simp
    rw [e, ← List.append_assoc, ih]
    simp [List.replicate_succ, preq]
  | drop n =>
   have h1 : B.length + (n + (us.map Un.cin).sum) ≤ 512 := h1
   have h2 : n + (us.map Un.cin).sum ≤ m := h2
   have h3 : n + (us.map Un.cin).sum ≤ G.length := h3
   have h4 : q.length + (0 + (us.map Un.cout).sum) ≤ 1099511627776 := h4
   rw [List.map_cons, gapsL, cells_get]
   rw [show (Un.drop n).sp.f1.toNat = n from Int.toNat_natCast n, show (Un.drop n).sp.f2 = ⟨#[]⟩ from rfl, if_pos ⟨by omega, by rw [size_none]; omega⟩, bytes_none, cells_set, ← hC, fill_at, hC, exU_cons]
   rw [show (Un.drop n).ex = List.replicate n .d from rfl, gpP_drop, gpG_drop, show ((Un.drop n).sp.f0 == 3) = true from rfl]
   cases n with
   | zero =>
    obtain ⟨m', G', ih⟩ := gapsL_is us B q m C G hC (by omega) (by omega) (by omega) (by omega)
    exact ⟨m', G', by simpa using ih⟩
   | succ n =>
    obtain ⟨m', G', ih⟩ := gapsL_is us (B ++ q :: List.replicate n []) [] (m - (n + 1)) (C ++ List.replicate (n + 1) true) (G.drop (n + 1)) (by simp [hC]) (by simp; omega) (by omega) (by rw [List.length_drop]; omega) (by simp; omega)
    refine ⟨m', G', ?_⟩
    rw [cells_more _ _ n m (by omega)]
    rw [preq_nil (gpP_ne _)] at ih
    have e : B.length + (n + 1) = (B ++ q :: List.replicate n ([] : List Int)).length := by simp
    rw [e, ← List.append_assoc, ih]
    simp [List.replicate_succ, preq]
theorem gapsOf_is {us : List Un} (h : Ok us) (h5 : (us.map Un.cin).sum ≤ 512) : Ev (fun k => gaps_Of.f k (us.map Un.sp)) ((gpP (exU us)).map encT, gpG (exU us), 0) := by
 have hco := h.cout
 unfold gaps_Of.f
 refine Ev.bind (opMay_is h) (ev_if_pos rfl ?_)
 refine Ev.bind (opIn_is h) (ev_if_neg (by omega) (ev_if_pos (by omega) ?_))
 obtain ⟨m', G', e⟩ := gapsL_is us [] [] 512 [] (List.replicate 512 false) rfl (by rw [List.length_nil]; omega) h5 (by rw [List.length_replicate]; exact h5) (by rw [List.length_nil]; omega)
 have e1 : cells [] [] 512 = List.replicate 513 ⟨#[]⟩ := by
  unfold cells
  rw [List.nil_append, ← List.replicate_succ, List.map_replicate, encT_nil]
 rw [e1] at e
 simp only [List.length_nil, List.nil_append] at e
 rw [preq_nil (gpP_ne _)] at e
 refine ev_some e ?_
 rw [Int.toNat_natCast]
 have l1 : ((gpP (exU us)).map encT).length = (us.map Un.cin).sum + 1 := by rw [List.length_map, gpP_length, cinU_ex]
 have l2 : (gpG (exU us)).length = (us.map Un.cin).sum := by rw [gpG_length, cinU_ex]
 have t1 : ((gpP (exU us) ++ List.replicate m' []).map encT).take ((us.map Un.cin).sum + 1) = (gpP (exU us)).map encT := by
  rw [List.map_append, List.take_left' l1]
 have t2 : (gpG (exU us) ++ G').take (us.map Un.cin).sum = gpG (exU us) := List.take_left' l2
 simp only [t1, t2]
 exact Ev.now _
end Go.Proofs.YtekjfodfedpioaaDoor.F
end
section
namespace Go.Proofs.YtekjfodfedpioaaDoor.F
open Go.RowKit Go.Proofs.YtekjfodfedpioaaDoorW.PrintWords Go.Proofs.YtekjfodfedpioaaDoorW.PrintLast Go.Proofs.YtekjfodfedpioaaDoorW.PrintMore
set_option linter.unusedVariables false
set_option linter.unusedSimpArgs false
theorem puts_le : ∀ x : List U, putsU x ≤ coutU x
 | [] => Nat.le_refl _
 | .p _ :: x => by have := puts_le x; simp only [coutU, putsU]; omega
 | .k :: x => by have := puts_le x; simp only [coutU, putsU]; omega
 | .d :: x => by have := puts_le x; simp only [coutU, putsU]; omega
theorem Small.tl2 {u : Un} {us : List Un} (h : Small (u :: us)) (v : Un) (h1 : v.ok) (h2 : szU v ≤ szU u) : Small (Go.Proofs.YtekjfodfedpioaaDoor.F.consF v us) := h.tail.consF h1 (Nat.le_trans h2 (h.sz u (by simp)))
end Go.Proofs.YtekjfodfedpioaaDoor.F
end
section
namespace Go.Proofs.YtekjfodfedpioaaDoor.F
open Go.RowKit Go.Proofs.YtekjfodfedpioaaDoorW.PrintWords Go.Proofs.YtekjfodfedpioaaDoorW.PrintLast Go.Proofs.YtekjfodfedpioaaDoorW.PrintMore
set_option linter.unusedVariables false
set_option linter.unusedSimpArgs false
theorem shown09 : Ev (fun k => epitomelaw09_shown.f k) true := Ev.of epitomelaw09_shown.mono (k := 40) (by decide +kernel)
end Go.Proofs.YtekjfodfedpioaaDoor.F
end
section
namespace Go.Proofs.YtekjfodfedpioaaDoor.F
open Go.RowKit Go.Proofs.YtekjfodfedpioaaDoorW.PrintWords Go.Proofs.YtekjfodfedpioaaDoorW.PrintLast Go.Proofs.YtekjfodfedpioaaDoorW.PrintMore
set_option linter.unusedVariables false
set_option linter.unusedSimpArgs false
theorem bools_of_struct {H : Type} {enc : TypeId × Value → H} {P : Program} {w : World} {base : Nat} {sp : Nat → Bool} {held : Bool} {fuel : Nat} {t : TypeId} {fs : Array Field} {cs : List Value} {zs : List Bool} {p : List MemPlace} (ht : P.underlying t = some (.struct fs))
    (hf : ∀ (i : Nat) (f : Field), fs[i]? = some f → P.underlying f.type = some .bool ∧ f.offset = i ∧ P.cellsOf f.type = 1) (hct : P.cellsOf t = fs.size)
    (h : DataW.trod enc P w base sp held fuel t cs = some (.agg (zs.map fun z => .lit (.bool z)), p)) : cs = zs.map fun z => Value.bool z := by
  obtain ⟨xs, n, rfl, hx, hl, hxl, hall⟩ := DataW.trod_struct ht h
  have hxs : xs.map (·.1) = zs.map fun z => (DataW.lit (.bool z) : DataW H) := by
    have := congrArg Prod.fst hx
    simpa using this.symm
  have hzl : zs.length = fs.size := by
    have := congrArg List.length hxs
    simp at this
    omega
  apply List.ext_getElem?
  intro i
  by_cases hi : i < fs.size
  · obtain ⟨hu, ho, hc⟩ := hf i fs[i] (by simp [hi])
    have h1 := hall i fs[i] (by simp [hi])
    obtain ⟨b, hb⟩ : ∃ b, xs[i]? = some b := ⟨xs[i]'(by omega), List.getElem?_eq_getElem (by omega)⟩
    rw [hb, ho, hc] at h1
    obtain ⟨z, hcz, rfl⟩ := DataW.trod_bool hu h1
    have h2 : cs[i]? = some (.bool z) := by
      have := congrArg (·[0]?) hcz
      simpa [List.getElem?_take, List.getElem?_drop] using this
    have h3 : (xs.map (·.1))[i]? = some (DataW.lit (.bool z) : DataW H) := by simp [hb]
    rw [hxs] at h3
    simp only [List.getElem?_map, Option.map_eq_some_iff, DataW.lit.injEq, Lit.bool.injEq] at h3
    obtain ⟨z', hz', rfl⟩ := h3
    simp [h2, hz']
  · rw [List.getElem?_eq_none (by omega), List.getElem?_eq_none (by simp; omega)]
theorem kinds_of_reads {W : World} (h : Lib.VarReads Tryd.prog W "epitome/span.kinds" Rows.laid_epitome_span_kinds) (i : Nat) (hi : i < 4) :
    W.cell? ⟨0, 2 * i, none⟩ = some (.bool (decide (i = 1 ∨ i = 3))) ∧ W.cell? ⟨0, 2 * i + 1, none⟩ = some (.bool (decide (i = 1))) := by
  obtain ⟨g, t, cs, fuel, p, hg, hty, hvar, hd⟩ := h
  have n0 : Tryd.prog.globalNamed "epitome/span.kinds" = some 0 := by kernel_rfl
  have y0 : (Tryd.prog.globals[0]?).map (·.type) = some 109 := by kernel_rfl
  have c4 : Tryd.prog.cellsOf 4 = 1 := by kernel_rfl
  have c90 : Tryd.prog.cellsOf 86 = 2 := by kernel_rfl
  obtain rfl := Option.some.inj (n0.symm.trans hg)
  obtain rfl := Option.some.inj (y0.symm.trans hty)
  obtain ⟨fuel', d, q, hdi, he⟩ := Lib.array_elem Tryd.underlying109 hd i hi
  have hdd : d = .agg ([decide (i = 1 ∨ i = 3), decide (i = 1)].map fun z => .lit (.bool z)) := by
    have : i = 0 ∨ i = 1 ∨ i = 2 ∨ i = 3 := by omega
    rcases this with rfl | rfl | rfl | rfl <;> (simp at hdi; exact hdi.symm)
  rw [hdd, c90] at he
  have hcs := bools_of_struct Tryd.underlying86 (fun j f hj => by
    match j, hj with
    | 0, hj => simp at hj; subst hj; exact ⟨Tryd.underlying4, rfl, c4⟩
    | 1, hj => simp at hj; subst hj; exact ⟨Tryd.underlying4, rfl, c4⟩
    | j + 2, hj => simp at hj) (by rw [c90]; rfl) he
  have e0 := congrArg (·[0]?) hcs
  have e1 := congrArg (·[1]?) hcs
  simp only [List.getElem?_take, List.getElem?_drop] at e0 e1
  constructor
  · rw [World.var?_cell n0 hvar (2 * i), ← Array.getElem?_toList]
    simpa [Nat.mul_comm] using e0
  · rw [World.var?_cell n0 hvar (2 * i + 1), ← Array.getElem?_toList]
    simpa [Nat.mul_comm] using e1
theorem accept_eq : (Rows.laid_unicode_utf8_acceptRanges : DataW Unit) = Lib.acceptData := by kernel_rfl
theorem first_eq : Rows.laid_unicode_utf8_first = Lib.firstData := by kernel_rfl
theorem glob_of_reads {W : World} (h1 : Lib.VarReads Tryd.prog W "unicode/utf8.first" Rows.laid_unicode_utf8_first) (h2 : Lib.VarReads Tryd.prog W "unicode/utf8.acceptRanges" Rows.laid_unicode_utf8_acceptRanges)
    (h3 : Lib.VarReads Tryd.prog W "epitome/span.kinds" Rows.laid_epitome_span_kinds) : Glob W := by
  rw [first_eq] at h1
  rw [accept_eq] at h2
  have k1 := kinds_of_reads h3 1 (by decide)
  have k2 := kinds_of_reads h3 2 (by decide)
  have k3 := kinds_of_reads h3 3 (by decide)
  exact ⟨k1.1, k1.2, k2.1, k2.2, k3.1, k3.2, utf8Tabs_of_readsT (Go.Proofs.U8Types.of196 Tryd.laysValid) ⟨by kernel_rfl, by kernel_rfl, by kernel_rfl, by kernel_rfl, by kernel_rfl, by kernel_rfl, by kernel_rfl⟩ h1 h2⟩
noncomputable def laidWorld (os : Os) : World :=
  let w0 := World.holding Tryd.prog os ⟨#[], #[], []⟩
  let put (h : Array Obj) (g : Nat) (cs : Array Value) : Array Obj := h.modify g fun
    | .cells _ t frozen => .cells cs t frozen
    | o => o
  let h1 := put w0.heap 0 #[.bool false, .bool false, .bool true, .bool true, .bool false, .bool false, .bool true, .bool false]
  let h2 := put h1 1 (Lib.firstTab.map fun z => Value.int .u8 z).toArray
  let h3 := put h2 2 ((List.range 16).flatMap fun i => [Value.int .u8 (Lib.accLo i), Value.int .u8 (Lib.accHi i)]).toArray
  { w0 with heap := h3 }
end Go.Proofs.YtekjfodfedpioaaDoor.F
end
