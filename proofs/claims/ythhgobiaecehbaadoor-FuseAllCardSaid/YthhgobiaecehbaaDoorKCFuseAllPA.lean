import Derived.Test.YthhgobiaecehbaaDoorKCFuseAllE
import Derived.Below
import Derived.Deep.Draws
import Derived.Deep.AppendLies
import Derived.Maps.AppendAt
import Derived.OwnWalk
import Derived.Laws.BytesArg
import Derived.Laws.MakeOwn
import Derived.Laws.OwnMore
import Derived.Deep.OwnRows
import Derived.Tactics
import Derived.Lib.ConvBytes
import Derived.Laws.Slices
import Derived.WalkKit
import Derived.KernelRfl
import Derived.RowKit3
import Derived.Deep.LoopGhost
import Derived.Deep.QuietTactic
import Derived.BigQuiet
import Derived.WideLaws
import Derived.Deep.DeepCutAuto
import Derived.Deep.CutBlock
import Derived.Deep.RegionHeld3
import Derived.Laws.Rows
import Derived.Lib.AppendStr
import Derived.ArgAppend
import Derived.Laws.IdiomCopy
import Derived.RowKit
import Derived.OrdersHeld
import Derived.Laws.BitsLemmas
import Derived.Laws.StructEq
import Derived.Test.YthhgobiaecehbaaDoorProg
import Derived.Handy
import Derived.Shelf.Unicode.DecodeSlow
import Derived.Ground.NamesProg
import Derived.Shelf.Unicode.ValidAny
import Derived.Laws.RangeString
import Derived.Laws.RangeAny
import Derived.Lib.RuneCount
import Derived.Laws.IdiomStrings
import Derived.Laws.Cover4
import Derived.Great.BuildSlice
import Derived.Defers
import Derived.ProofKit
import Derived.OpenShut
import Derived.ShutString
import Derived.ChangeOld
import Derived.SizedLaws
import Derived.Lib.ValidLaws
import Derived.Test.YthhgobiaecehbaaDoorRows
import Derived.Lib.LaidU8T
import Derived.Lib.LaidIn
import Derived.LaidLaws
section
namespace Go.Proofs.YthhgobiaecehbaaDoor.F
open Go.RowKit Go.Proofs.YthhgobiaecehbaaDoorW.PrintWords Go.Proofs.YthhgobiaecehbaaDoorW.PrintLast Go.Proofs.YthhgobiaecehbaaDoorW.PrintMore
set_option linter.unusedVariables false
set_option linter.unusedSimpArgs false
def Opens {α : Type} (P : Program) (t : TypeId) (d : Kd α) (V : α → Prop) : Prop :=
  ∀ {H : Type} (enc : TypeId × Value → H) (w : World) (base : Nat) (spare : Nat → Bool) (held : Bool) (fuel : Nat) (cs : List Value) (x : DataW H × List MemPlace),
    DataW.trod enc P w base spare held fuel t cs = some x → ∃ a : α, d.K w a cs ∧ V a
theorem opens_int {P : Program} {t : TypeId} {k : IntKind} (ht : P.underlying t = some (.int k)) : Opens P t (Kd.int k) (fun n => (Lit.int k n).wf = true) := by
  intro H enc w base spare held fuel cs x h
  obtain ⟨n, hc, _, hw⟩ := DataW.trod_int ht h
  exact ⟨n, hc, hw⟩
theorem opens_string {P : Program} {t : TypeId} (ht : P.underlying t = some .string) : Opens P t Kd.string (fun s => s.size ≤ maxLen) := by
  intro H enc w base spare held fuel cs x h
  obtain ⟨s, hc, _, hs⟩ := DataW.trod_string ht h
  exact ⟨s, hc, hs⟩
theorem list_of_each {α : Type} (R : Nat → α → Prop) : ∀ n : Nat, (∀ i, i < n → ∃ x, R i x) → ∃ l : List α, l.length = n ∧ ∀ i x, l[i]? = some x → R i x
  | 0, _ => ⟨[], rfl, fun i x h => by simp at h⟩
  | n + 1, h => by
    obtain ⟨l, hl, hr⟩ := list_of_each R n (fun i hi => h i (by omega))
    obtain ⟨x, hx⟩ := h n (by omega)
    refine ⟨l ++ [x], by simp [hl], fun i y hy => ?_⟩
    rw [List.getElem?_append] at hy
    split at hy
    · exact hr i y hy
    · next hge =>
      have : i = n := by
        have := (List.getElem?_eq_some_iff.1 hy).1
        simp at this
        omega
      subst this
      simp [hl] at hy
      exact hy ▸ hx
theorem cells_each {w : World} {base : Nat} {a : Addr} {n : Nat} {cs : List Value} (h : w.cells? base a n = some cs) : cs.length = n ∧ ∀ i u, cs[i]? = some u → w.cell? (a.add i) = some u := by
  unfold World.cells? at h
  split at h
  · have hl : cs.length = n := by
      have := mapM_some_length h
      simpa using this
    exact ⟨hl, fun i u hu => by
      have hi : i < n := by have := (List.getElem?_eq_some_iff.1 hu).1; omega
      rw [mapM_some_get h i i (by simp [hi])]
      exact hu⟩
  · cases h
theorem add_add (a : Addr) (i j : Nat) : (a.add i).add j = a.add (i + j) := by
  by_cases hi : i = 0
  · subst hi; simp [Addr.add]
  · by_cases hj : j = 0
    · subst hj; simp [Addr.add]
    · simp [Addr.add, hi, hj, Nat.add_assoc]
theorem opens_slice {α : Type} {P : Program} {t e : TypeId} {d : Kd α} {V : α → Prop} (ht : P.underlying t = some (.slice e)) (hc : P.cellsOf e = d.sz) (h : Opens P e d V) :
    Opens P t (Kd.slice e d) (fun l => l.length ≤ maxLen ∧ ∀ x ∈ l, V x) := by
  intro H enc w base spare held fuel cs x hx
  rcases DataW.trod_slice ht hx with ⟨rfl, rfl⟩ | ⟨a, len, cap, elems, rest, n, _, rfl, rfl, hb, hl, hm, hlen, hel, _, _⟩
  · exact ⟨[], ⟨none, 0, rfl, Nat.le_refl _, Kd.C_nil _ _⟩, by simp, by simp⟩
  · have each : ∀ i, i < len → ∃ p : α, (∃ c, c.length = d.sz ∧ d.K w p c ∧ ∀ j u, c[j]? = some u → w.cell? (a.add (i * d.sz + j)) = some u) ∧ V p := by
      intro i hi
      have hi' := hel i hi
      have hs : elems[i]? = some (elems[i]'(by omega)) := List.getElem?_eq_getElem (by omega)
      rw [hs, Option.bind_eq_some_iff] at hi'
      obtain ⟨c, hcs, hy⟩ := hi'
      obtain ⟨p, hp, hv⟩ := h enc w base spare held n c _ hy
      obtain ⟨hcl, hce⟩ := cells_each hcs
      refine ⟨p, ⟨c, hcl.trans hc, hp, fun j u hu => ?_⟩, hv⟩
      have := hce j u hu
      rw [add_add, hc] at this
      exact this
    obtain ⟨l, hll, hlr⟩ := list_of_each _ len each
    have hm' : len ≤ 9223372036854775807 := by unfold maxLen at hm; omega
    refine ⟨l, ⟨some a, cap, by rw [hll], by omega, rfl, by omega, fun _ => ⟨a, rfl, fun j p hj => (hlr j p hj).1⟩⟩, by unfold maxLen at hm ⊢; omega, fun x hx => ?_⟩
    obtain ⟨j, hj⟩ := List.getElem?_of_mem hx
    exact (hlr j x hj).2
end Go.Proofs.YthhgobiaecehbaaDoor.F
end
section
namespace Go.Proofs.YthhgobiaecehbaaDoor.F
open Go.RowKit Go.Proofs.YthhgobiaecehbaaDoorW.PrintWords Go.Proofs.YthhgobiaecehbaaDoorW.PrintLast Go.Proofs.YthhgobiaecehbaaDoorW.PrintMore
attribute [local go_sem] max2_int min2_int max_two min_two max_three min_three max_four min_four cell_setCell_isSome
set_option linter.unusedVariables false
set_option linter.unusedSimpArgs false
def V41 (x : S41) : Prop := ((Lit.int .i64 x.f0).wf = true) ∧ ((Lit.int .i64 x.f1).wf = true) ∧ (x.f2.size ≤ maxLen)
set_option maxRecDepth 10000 in
theorem opens41 : Opens Tryd.prog 41 k41 V41 := by
  intro H enc w base spare held fuel cs x h
  obtain ⟨xs, n, rfl, rfl, hlen, hxs, hf⟩ := DataW.trod_struct Tryd.underlying41 h
  have hl : cs.length = 3 := hlen.trans (by kernel_rfl)
  have hx : xs.length = 3 := hxs
  have h0 := hf 0 _ rfl
  rw [List.getElem?_eq_getElem (show 0 < xs.length by omega)] at h0
  obtain ⟨v0, k0, p0⟩ := (opens_int Tryd.underlying3) enc w base spare held n _ _ h0
  have h1 := hf 1 _ rfl
  rw [List.getElem?_eq_getElem (show 1 < xs.length by omega)] at h1
  obtain ⟨v1, k1, p1⟩ := (opens_int Tryd.underlying3) enc w base spare held n _ _ h1
  have h2 := hf 2 _ rfl
  rw [List.getElem?_eq_getElem (show 2 < xs.length by omega)] at h2
  obtain ⟨v2, k2, p2⟩ := (opens_string Tryd.underlying9) enc w base spare held n _ _ h2
  refine ⟨⟨v0, v1, v2⟩, ?_, ⟨p0, p1, p2⟩⟩
  have e2 : cs = (cs.drop 0).take 1 ++ ((cs.drop 1).take 1 ++ ((cs.drop 2).take 1)) := by
    match cs, hl with
    | [c0, c1, c2], _ => rfl
  rw [e2]
  exact ⟨_, _, rfl, (show ((Kd.int .i64)).K w _ ((cs.drop 0).take 1) from k0), ⟨_, _, rfl, (show ((Kd.int .i64)).K w _ ((cs.drop 1).take 1) from k1), (show (Kd.string).K w _ ((cs.drop 2).take 1) from k2)⟩⟩
end Go.Proofs.YthhgobiaecehbaaDoor.F
end
section
namespace Go.Proofs.YthhgobiaecehbaaDoor.F
open Go.RowKit Go.Proofs.YthhgobiaecehbaaDoorW.PrintWords Go.Proofs.YthhgobiaecehbaaDoorW.PrintLast Go.Proofs.YthhgobiaecehbaaDoorW.PrintMore
set_option linter.unusedVariables false
set_option linter.unusedSimpArgs false
theorem ev_if_pos {α : Type} {c : Prop} [Decidable c] {g f : Nat → Option α} {r : α} (hc : c) (h : Ev g r) : Ev (fun k => if c then g k else f k) r := by
 simp only [if_pos hc]; exact h
theorem ev_if_neg {α : Type} {c : Prop} [Decidable c] {g f : Nat → Option α} {r : α} (hc : ¬ c) (h : Ev f r) : Ev (fun k => if c then g k else f k) r := by
 simp only [if_neg hc]; exact h
theorem ev_some {α β : Type} {g : Option α} {a : α} {f : Nat → α → Option β} {r : β} (hg : g = some a) (h : Ev (fun n => f n a) r) : Ev (fun n => g.bind (f n)) r := by
 subst hg; exact h
theorem w64 {x : Int} (h : -9223372036854775808 ≤ x) (h2 : x ≤ 9223372036854775807) : wrap64 x = x := by unfold wrap64; omega
theorem wf_bounds {x : Int} (h : (Lit.int .i64 x).wf = true) : -9223372036854775808 ≤ x ∧ x ≤ 9223372036854775807 := by
 simp [Lit.wf, IntKind.min, IntKind.max, IntKind.bits, IntKind.signed] at h
 omega
theorem wf_u8 {x : Int} (h : (Lit.int .u8 x).wf = true) : 0 ≤ x ∧ x ≤ 255 := by
 simp [Lit.wf, IntKind.min, IntKind.max, IntKind.bits, IntKind.signed] at h
 omega
end Go.Proofs.YthhgobiaecehbaaDoor.F
end
section
namespace Go.Proofs.YthhgobiaecehbaaDoor.F
open Go.RowKit Go.Proofs.YthhgobiaecehbaaDoorW.PrintWords Go.Proofs.YthhgobiaecehbaaDoorW.PrintLast Go.Proofs.YthhgobiaecehbaaDoorW.PrintMore
set_option linter.unusedVariables false
set_option linter.unusedSimpArgs false
abbrev Sp := S41
deriving instance DecidableEq for S41
instance : DecidableEq Sp := inferInstanceAs (DecidableEq S41)
def emptyS (s : Sp) : Bool := decide (s.f1 = 0) && (s.f2.toList == [])
def joinS (a b : Sp) : Sp := ⟨a.f0, wrap64 (a.f1 + b.f1), a.f2 ++ b.f2⟩
def runs : Sp → List Sp → List Sp
 | c, [] => [c]
 | c, t :: r => if t.f0 = c.f0 then runs (joinS c t) r else c :: runs t r
def mergeS : List Sp → List Sp
 | [] => []
 | s :: r => runs s r
def norm (l : List Sp) : List Sp := mergeS (l.filter (fun s => !emptyS s))
def sizeS (l : List Sp) : Nat := (l.map (fun s => s.f2.size)).sum
theorem empty_is (a b : Int) (c : ByteArray) : normal_empty.f a b c = some (emptyS ⟨a, b, c⟩) := by
 unfold normal_empty.f emptyS
 by_cases h : b = 0 <;> simp [h]
theorem empty_at (s : Sp) : normal_empty.f s.f0 s.f1 s.f2 = some (emptyS s) := empty_is _ _ _
theorem rdS_at {pre r : List Sp} {c : Sp} {i : Int} (h : i = pre.length) : rd_T41 (pre ++ c :: r) i = c := by
 subst h
 unfold rd_T41
 simp [List.getD_eq_getElem?_getD]
theorem setS_at {pre r : List Sp} {c d : Sp} {i : Int} (h : i = pre.length) : (pre ++ c :: r).set i.toNat d = pre ++ d :: r := by
 subst h
 simp [List.set_append]
def idxE (l : List Sp) : Int := match l.findIdx? emptyS with | some i => (i : Int) | none => -1
theorem indexFunc_loop (l : List Sp) (hl : l.length ≤ 4611686018427387904) : ∀ (r pre : List Sp), l = pre ++ r → (∀ s ∈ pre, emptyS s = false) →
  Ev (fun k => api_Span_80.l0 k l (l.length : Int) (pre.length : Int)) (idxE l)
 | [], pre, h, hp => by
  refine Ev.step (f := fun _ => some (-1)) (fun k => ?_) ?_
  ·rw [api_Span_80.l0, if_neg (by subst h; simp)]
  ·have : idxE l = -1 := by
    unfold idxE
    have : l.findIdx? emptyS = none := by
     rw [List.findIdx?_eq_none_iff]; subst h; simpa using hp
    rw [this]
   rw [this]
   exact Ev.now _
 | t :: r, pre, h, hp => by
  have hlt : (pre.length : Int) < (l.length : Int) := by subst h; simp <;> omega
  refine Ev.step (f := fun k => (some (emptyS t)).bind fun t102 => if t102 = true then some (pre.length : Int) else api_Span_80.l0 k l (l.length : Int) (wrap64 (pre.length + 1))) (fun k => ?_) ?_
  ·rw [api_Span_80.l0, if_pos hlt, if_pos (by omega), if_pos hlt]
   have e : rd_T41 l (pre.length : Int) = t := by subst h; exact rdS_at rfl
   rw [e, empty_at]
  ·refine ev_some rfl ?_
   cases he : emptyS t with
   | true =>
    refine ev_if_pos rfl ?_
    have : idxE l = pre.length := by
     unfold idxE
     have : l.findIdx? emptyS = some pre.length := by
      rw [List.findIdx?_eq_some_iff_getElem]
      subst h
      refine ⟨by simp, by simpa using he, fun j hj => ?_⟩
      rw [List.getElem_append_left hj]
      simpa using hp _ (List.getElem_mem hj)
     rw [this]
    rw [this]
    exact Ev.now _
   | false =>
    refine ev_if_neg (by simp) ?_
    rw [w64 (by omega) (by omega)]
    have := indexFunc_loop l hl r (pre ++ [t]) (by simpa using h) (by intro s hs; rcases List.mem_append.1 hs with h1 | h1; exact hp s h1; simp at h1; rw [h1]; exact he)
    simpa using this
theorem indexFunc_is (l : List Sp) (hl : l.length ≤ 4611686018427387904) : Ev (fun k => api_Span_80.f k l) (idxE l) := by
 unfold api_Span_80.f
 exact indexFunc_loop l hl l [] rfl (by simp)
theorem deleteFunc_loop : ∀ (r kept junk : List Sp) (j0 : Sp) (n : Int), n = (kept.length + (junk.length + 1) : Nat) → kept.length + junk.length + r.length ≤ 4611686018427387904 →
  Ev (fun k => api_Span_53.l0 k (kept ++ j0 :: (junk ++ r)) (kept.length : Int) n) (kept ++ r.filter (fun s => !emptyS s))
 | [], kept, junk, j0, n, hn, hl => by
  refine Ev.step (f := fun _ => some kept) (fun k => ?_) (by simpa using Ev.now kept)
  rw [api_Span_53.l0, if_neg (by subst hn; simp), if_pos (by omega), if_pos (by simp <;> omega)]
  simp
 | t :: r, kept, junk, j0, n, hn, hl => by
  have hlen : (n : Int) < ((kept ++ j0 :: (junk ++ t :: r)).length : Int) := by subst hn; simp <;> omega
  have ha : kept ++ j0 :: (junk ++ t :: r) = (kept ++ j0 :: junk) ++ t :: r := by simp
  have hrd : rd_T41 (kept ++ j0 :: (junk ++ t :: r)) n = t := by rw [ha]; exact rdS_at (by subst hn; simp)
  simp only [List.length_cons] at hl
  refine Ev.step (f := fun k => (some (emptyS t)).bind fun t104 => if t104 = true then api_Span_53.l0 k (kept ++ j0 :: (junk ++ t :: r)) (kept.length : Int) (wrap64 (n + 1)) else api_Span_53.l0 k (kept ++ t :: (junk ++ t :: r)) (wrap64 (kept.length + 1)) (wrap64 (n + 1))) (fun k => ?_) ?_
  ·rw [api_Span_53.l0, if_pos hlen, if_pos (by omega), hrd, empty_at]
   congr 1
   funext b
   cases b with
   | true => rfl
   | false =>
    simp only [Bool.false_eq_true, if_false]
    rw [if_pos (by omega), if_pos (by simp <;> omega), setS_at rfl]
  ·refine ev_some rfl ?_
   have w1 : wrap64 (n + 1) = n + 1 := w64 (by omega) (by omega)
   cases he : emptyS t with
   | true =>
    refine ev_if_pos rfl ?_
    rw [w1]
    have := deleteFunc_loop r kept (junk ++ [t]) j0 (n + 1) (by subst hn; simp <;> omega) (by simp <;> omega)
    simpa [he] using this
   | false =>
    refine ev_if_neg (by simp) ?_
    rw [w1, w64 (by omega) (by omega)]
    rcases junk with _ | ⟨j1, js⟩
    ·have := deleteFunc_loop r (kept ++ [t]) [] t (n + 1) (by subst hn; simp <;> omega) (by simp <;> omega)
     simpa [he] using this
    ·have := deleteFunc_loop r (kept ++ [t]) (js ++ [t]) j1 (n + 1) (by subst hn; simp <;> omega) (by simp; simp at hl; omega)
     simpa [he] using this
theorem split_empty : ∀ (l : List Sp), (∀ s ∈ l, emptyS s = false) ∨ ∃ pre j r, l = pre ++ j :: r ∧ (∀ s ∈ pre, emptyS s = false) ∧ emptyS j = true
 | [] => .inl (by simp)
 | s :: l => by
  cases he : emptyS s with
  | true => exact .inr ⟨[], s, l, rfl, by simp, he⟩
  | false =>
   rcases split_empty l with h | ⟨pre, j, r, rfl, h1, h2⟩
   ·exact .inl (by intro x hx; rcases List.mem_cons.1 hx with rfl | hx; exact he; exact h x hx)
   ·exact .inr ⟨s :: pre, j, r, rfl, by intro x hx; rcases List.mem_cons.1 hx with rfl | hx; exact he; exact h1 x hx, h2⟩
theorem deleteFunc_is (l : List Sp) (hl : l.length ≤ 4611686018427387904) : Ev (fun k => api_Span_53.f k l) (l.filter (fun s => !emptyS s)) := by
 unfold api_Span_53.f
 refine Ev.bind (indexFunc_is l hl) ?_
 rcases split_empty l with h | ⟨pre, j, r, rfl, h1, h2⟩
 ·have e : idxE l = -1 := by
   unfold idxE
   have : l.findIdx? emptyS = none := by rw [List.findIdx?_eq_none_iff]; simpa using h
   rw [this]
  refine ev_if_pos e ?_
  have : l.filter (fun s => !emptyS s) = l := by rw [List.filter_eq_self]; intro s hs; simp [h s hs]
  rw [this]
  exact Ev.now _
 ·have e : idxE (pre ++ j :: r) = pre.length := by
   unfold idxE
   have : (pre ++ j :: r).findIdx? emptyS = some pre.length := by
    rw [List.findIdx?_eq_some_iff_getElem]
    refine ⟨by simp, by simpa using h2, fun i hi => ?_⟩
    rw [List.getElem_append_left hi]
    simpa using h1 _ (List.getElem_mem hi)
   rw [this]
  rw [e]
  simp at hl
  refine ev_if_neg (by omega) ?_
  rw [w64 (by omega) (by omega)]
  have := deleteFunc_loop r pre [] j ((pre.length : Int) + 1) (by simp) (by simp <;> omega)
  have hf : (pre ++ j :: r).filter (fun s => !emptyS s) = pre ++ r.filter (fun s => !emptyS s) := by
   rw [List.filter_append, List.filter_eq_self.2 (by intro s hs; simp [h1 s hs])]
   simp [h2]
  rw [hf]
  simpa using this
theorem of_loop : ∀ (r pre junk : List Sp) (cur : Sp) (n : Int), n = (pre.length + (junk.length + 1) : Nat) → pre.length + junk.length + r.length ≤ 4611686018427387904 → cur.f2.size + sizeS r ≤ 9223372036854775807 →
  Ev (fun k => normal_Of.l0 k (pre ++ cur :: (junk ++ r)) (pre.length : Int) ((pre.length + (junk.length + 1) + r.length : Nat) : Int) n) (pre ++ runs cur r)
 | [], pre, junk, cur, n, hn, hl, hs => by
  refine Ev.step (f := fun _ => some (pre ++ [cur])) (fun k => ?_) (Ev.now _)
  rw [normal_Of.l0, if_neg (by subst hn; simp), w64 (by omega) (by omega)]
  have e : mn ((pre.length : Int) + 1) ((pre ++ cur :: (junk ++ [])).length : Int) = (pre.length : Int) + 1 := by
   unfold mn
   rw [if_neg (by simp <;> omega)]
  rw [e, if_pos (by omega), if_pos (by simp <;> omega)]
  rw [show ((pre.length : Int) + 1).toNat = (pre ++ [cur]).length by simp <;> omega]
  rw [show pre ++ cur :: (junk ++ []) = (pre ++ [cur]) ++ junk by simp, List.take_left]
 | t :: r, pre, junk, cur, n, hn, hl, hs => by
  have ha : pre ++ cur :: (junk ++ t :: r) = (pre ++ cur :: junk) ++ t :: r := by simp
  have hlen : (pre ++ cur :: (junk ++ t :: r)).length = pre.length + (junk.length + 1) + (t :: r).length := by simp <;> omega
  have hrd : rd_T41 (pre ++ cur :: (junk ++ t :: r)) n = t := by rw [ha]; exact rdS_at (by subst hn; simp)
  have hcur : rd_T41 (pre ++ cur :: (junk ++ t :: r)) (pre.length : Int) = cur := rdS_at rfl
  simp only [List.length_cons] at hl
  have hs' : cur.f2.size + (t.f2.size + sizeS r) ≤ 9223372036854775807 := by simpa [sizeS] using hs
  have w1 : wrap64 (n + 1) = n + 1 := w64 (by omega) (by omega)
  have e1 : ((pre.length + (junk.length + 1) + (t :: r).length : Nat) : Int) = ((pre.length + ((junk ++ [t]).length + 1) + r.length : Nat) : Int) := by simp <;> omega
  by_cases hk : t.f0 = cur.f0
  ·refine Ev.step (f := fun k => normal_Of.l0 k (pre ++ joinS cur t :: ((junk ++ [t]) ++ r)) (pre.length : Int) ((pre.length + ((junk ++ [t]).length + 1) + r.length : Nat) : Int) (n + 1)) (fun k => ?_) ?_
   ·rw [normal_Of.l0, if_pos (by subst hn; simp <;> omega), if_pos (by omega), if_pos (by rw [hlen]; subst hn; simp <;> omega), if_neg (by omega), if_pos (by omega), if_pos (by rw [hlen]; simp <;> omega), hrd, hcur, if_pos hk, Option.bind_some, setS_at rfl]
    simp only [rdS_at (c := (⟨cur.f0, wrap64 (cur.f1 + t.f1), cur.f2⟩ : Sp)) (r := junk ++ t :: r) (pre := pre) rfl]
    rw [if_pos (by omega), setS_at rfl, w1, e1]
    simp [joinS]
   ·rw [runs, if_pos hk]
    exact of_loop r pre (junk ++ [t]) (joinS cur t) (n + 1) (by subst hn; simp <;> omega) (by simp <;> omega) (by simp [joinS, ByteArray.size_append]; omega)
  ·have w2 : wrap64 ((pre.length : Int) + 1) = (pre.length : Int) + 1 := w64 (by omega) (by omega)
   rw [runs, if_neg hk]
   rcases junk with _ | ⟨j1, js⟩
   ·refine Ev.step (f := fun k => normal_Of.l0 k ((pre ++ [cur]) ++ t :: ([] ++ r)) ((pre ++ [cur]).length : Int) (((pre ++ [cur]).length + (([] : List Sp).length + 1) + r.length : Nat) : Int) (n + 1)) (fun k => ?_) ?_
    ·rw [normal_Of.l0, if_pos (by subst hn; simp <;> omega), if_pos (by omega), if_pos (by rw [hlen]; subst hn; simp <;> omega), if_neg (by omega), if_pos (by omega), if_pos (by rw [hlen]; simp <;> omega), hrd, hcur, if_neg hk, w2, if_pos (by omega), if_pos (by rw [hlen]; simp <;> omega), w1]
     rw [show pre ++ cur :: ([] ++ t :: r) = (pre ++ [cur]) ++ t :: r by simp, setS_at (by simp)]
     simp
     try (congr 1; done)
     try (congr 1; omega)
    ·have := of_loop r (pre ++ [cur]) [] t (n + 1) (by subst hn; simp <;> omega) (by simp <;> omega) (by omega)
     simpa using this
   ·refine Ev.step (f := fun k => normal_Of.l0 k ((pre ++ [cur]) ++ t :: ((js ++ [t]) ++ r)) ((pre ++ [cur]).length : Int) (((pre ++ [cur]).length + ((js ++ [t]).length + 1) + r.length : Nat) : Int) (n + 1)) (fun k => ?_) ?_
    ·rw [normal_Of.l0, if_pos (by subst hn; simp <;> omega), if_pos (by omega), if_pos (by rw [hlen]; subst hn; simp <;> omega), if_neg (by omega), if_pos (by omega), if_pos (by rw [hlen]; simp <;> omega), hrd, hcur, if_neg hk, w2, if_pos (by omega), if_pos (by rw [hlen]; simp <;> omega), w1]
     rw [show pre ++ cur :: ((j1 :: js) ++ t :: r) = (pre ++ [cur]) ++ j1 :: (js ++ t :: r) by simp, setS_at (by simp)]
     simp
     congr 1
     omega
    ·have := of_loop r (pre ++ [cur]) (js ++ [t]) t (n + 1) (by subst hn; simp <;> omega) (by simp; simp at hl; omega) (by omega)
     simpa using this
theorem merge_is (l : List Sp) (hl : l.length ≤ 4611686018427387904) (hs : sizeS l ≤ 9223372036854775807) : Ev (fun k => normal_Of.l0 k l 0 (l.length : Int) 0) (mergeS l) := by
 rcases l with _ | ⟨s, r⟩
 ·refine Ev.step (f := fun _ => some []) (fun k => ?_) (Ev.now _)
  rw [normal_Of.l0, if_neg (by simp)]
  simp [mn, wrap64]
 ·simp only [List.length_cons] at hl
  refine Ev.step (f := fun k => normal_Of.l0 k (s :: r) 0 ((s :: r).length : Int) 1) (fun k => ?_) ?_
  ·rw [normal_Of.l0, if_pos (by simp <;> omega), if_pos (by omega), if_pos (by simp <;> omega), if_pos rfl, w64 (by omega) (by omega)]
   rfl
  ·have := of_loop r [] [] s 1 (by simp) (by simp <;> omega) (by simpa [sizeS] using hs)
   have e : ((([] : List Sp).length + (([] : List Sp).length + 1) + r.length : Nat) : Int) = ((s :: r).length : Int) := by simp <;> omega
   rw [e] at this
   exact this
theorem sizeS_filter (p : Sp → Bool) : ∀ l, sizeS (l.filter p) ≤ sizeS l
 | [] => Nat.le_refl _
 | s :: l => by
  have := sizeS_filter p l
  by_cases h : p s = true
  ·rw [List.filter_cons_of_pos h]; simp only [sizeS, List.map_cons, List.sum_cons] at this ⊢; omega
  ·rw [List.filter_cons_of_neg h]; simp only [sizeS, List.map_cons, List.sum_cons] at this ⊢; omega
theorem normal_is (l : List Sp) (hl : l.length < 4398046511104) (hs : sizeS l ≤ 9223372036854775807) : Ev (fun k => normal_Of.f k l) (norm l) := by
 unfold normal_Of.f
 refine ev_some rfl (ev_if_pos (by simpa using hl) ?_)
 refine Ev.bind (deleteFunc_is l (by omega)) ?_
 exact merge_is (l.filter (fun s => !emptyS s)) (Nat.le_trans (List.length_filter_le _ _) (by omega)) (Nat.le_trans (sizeS_filter _ _) hs)
theorem same_loop (a b : List Sp) (hl : a.length = b.length) (hm : a.length ≤ 4611686018427387904) : ∀ (r q pre pre2 : List Sp), a = pre ++ r → b = pre2 ++ q → pre.length = pre2.length →
  Ev (fun k => epitomeref04_Same.l0 k a b (pre.length : Int)) (decide (r = q))
 | [], q, pre, pre2, h1, h2, h3 => by
  have hq : q = [] := by
   have : q.length = 0 := by rw [h1, h2] at hl; simp at hl; omega
   exact List.eq_nil_of_length_eq_zero this
  refine Ev.step (f := fun _ => some true) (fun k => ?_) (by rw [hq]; exact Ev.now _)
  rw [epitomeref04_Same.l0, if_neg (by rw [h1]; simp)]
 | t :: r, [], pre, pre2, h1, h2, h3 => by
  rw [h1, h2] at hl
  simp at hl
  omega
 | t :: r, u :: q, pre, pre2, h1, h2, h3 => by
  have hlt : (pre.length : Int) < (a.length : Int) := by rw [h1]; simp <;> omega
  have ea : rd_T41 a (pre.length : Int) = t := by rw [h1]; exact rdS_at rfl
  have eb : rd_T41 b (pre.length : Int) = u := by rw [h2]; exact rdS_at (by rw [h3])
  have hc : ((!(t.f0 == u.f0) || (!(t.f1 == u.f1) || (!(t.f2.toList == u.f2.toList)))) = true) ↔ t ≠ u := by
   have hb : t.f2.toList = u.f2.toList ↔ t.f2 = u.f2 := by
    constructor
    ·intro h
     rw [ByteArray.toList_eq, ByteArray.toList_eq] at h
     have := congrArg (fun l => (⟨l.toArray⟩ : ByteArray)) h
     exact ByteArray.ext (by simpa using this)
    ·intro h; rw [h]
   obtain ⟨t0, t1, t2⟩ := t
   obtain ⟨u0, u1, u2⟩ := u
   simp at hb
   simp [hb]
   constructor
   ·rintro (h | h | h) h2 h3 <;> simp_all
   ·intro h
    by_cases h0 : t0 = u0
    ·by_cases h1 : t1 = u1
     ·exact .inr (.inr (fun h2 => h h0 h1 h2))
     ·exact .inr (.inl h1)
    ·exact .inl h0
  refine Ev.step (f := fun k => if t ≠ u then some false else epitomeref04_Same.l0 k a b (pre.length + 1 : Int)) (fun k => ?_) ?_
  ·rw [epitomeref04_Same.l0, if_pos hlt, if_pos (by omega), if_pos (by rw [← hl]; exact hlt), ea, eb, w64 (by omega) (by omega)]
   by_cases h : t = u
   ·rw [if_neg (fun hh => hc.1 hh h), if_neg (by simpa using h)]
   ·rw [if_pos (hc.2 h), if_pos h]
  ·by_cases h : t = u
   ·refine ev_if_neg (by simpa using h) ?_
    have := same_loop a b hl hm r q (pre ++ [t]) (pre2 ++ [u]) (by simp [h1]) (by simp [h2]) (by simp [h3])
    simpa [h] using this
   ·refine ev_if_pos h ?_
    have : decide (t :: r = u :: q) = false := by simp [h]
    rw [this]
    exact Ev.now _
theorem same_is (a b : List Sp) (hm : a.length ≤ 4611686018427387904) : Ev (fun k => epitomeref04_Same.f k a b) (decide (a = b)) := by
 unfold epitomeref04_Same.f
 by_cases h : (a.length : Int) = (b.length : Int)
 ·refine ev_if_pos h ?_
  exact same_loop a b (by omega) hm a b [] [] rfl rfl rfl
 ·refine ev_if_neg h ?_
  have : decide (a = b) = false := by
   rw [decide_eq_false_iff_not]
   intro e
   exact h (by rw [e])
  rw [this]
  exact Ev.now _
end Go.Proofs.YthhgobiaecehbaaDoor.F
end
section
namespace Go.Proofs.YthhgobiaecehbaaDoor.F
open Go.RowKit Go.Proofs.YthhgobiaecehbaaDoorW.PrintWords Go.Proofs.YthhgobiaecehbaaDoorW.PrintLast Go.Proofs.YthhgobiaecehbaaDoorW.PrintMore
set_option linter.unusedVariables false
set_option linter.unusedSimpArgs false
def isRune (r : Int) : Prop := (0 ≤ r ∧ r < 55296) ∨ (57344 ≤ r ∧ r ≤ 1114111)
def enc1 (r : Int) : List Int :=
 if r < 128 then [r] else if r < 2048 then [192 + r / 64, 128 + r % 64]
 else if r < 65536 then [224 + r / 4096, 128 + r / 64 % 64, 128 + r % 64]
 else [240 + r / 262144, 128 + r / 4096 % 64, 128 + r / 64 % 64, 128 + r % 64]
def encB (l : List Int) : List Int := l.flatMap enc1
def encT (l : List Int) : ByteArray := strOfNums (encB l)
theorem enc1_length (r : Int) : 1 ≤ (enc1 r).length ∧ (enc1 r).length ≤ 4 := by
 unfold enc1
 split
 ·simp
 ·split
  ·simp
  ·split <;> simp
theorem encB_cons (r : Int) (l : List Int) : encB (r :: l) = enc1 r ++ encB l := by simp [encB]
theorem encB_append (a b : List Int) : encB (a ++ b) = encB a ++ encB b := by simp [encB]
theorem encB_length (l : List Int) : l.length ≤ (encB l).length ∧ (encB l).length ≤ 4 * l.length := by
 induction l with
 | nil => simp [encB]
 | cons r l ih =>
  have := enc1_length r
  rw [encB_cons]
  simp
  omega
theorem strOfNums_append (a b : List Int) : strOfNums (a ++ b) = strOfNums a ++ strOfNums b := by
 apply ByteArray.ext
 rw [ByteArray.data_append]
 simp [strOfNums]
theorem encT_append (a b : List Int) : encT (a ++ b) = encT a ++ encT b := by unfold encT; rw [encB_append, strOfNums_append]
theorem encT_nil : encT [] = ⟨#[]⟩ := rfl
theorem encT_size (l : List Int) : l.length ≤ (encT l).size ∧ (encT l).size ≤ 4 * l.length := by
 unfold encT
 rw [strOfNums_size]
 exact encB_length l
theorem encT_none (l : List Int) : (encT l).toList = [] ↔ l = [] := by
 rw [ByteArray.toList_eq]
 constructor
 ·intro h
  have h2 := (encT_size l).1
  have : (encT l).size = 0 := by rw [← data_length, h]; rfl
  exact List.eq_nil_of_length_eq_zero (by omega)
 ·rintro rfl
  rfl
theorem size_is (r : Int) (h : isRune r) : Ev (fun k => epitomeref01_size.f k r) ((enc1 r).length : Int) := by
 have hj : Ev (fun k => epitomeref01_size.j0 k r false) ((enc1 r).length : Int) := by
  refine Ev.step (f := fun _ => some ((enc1 r).length : Int)) (fun k => ?_) (Ev.now _)
  rw [epitomeref01_size.j0, if_neg (by simp)]
  unfold enc1
  split
  ·rfl
  ·split
   ·rfl
   ·split <;> rfl
 unfold epitomeref01_size.f
 unfold isRune at h
 refine ev_if_neg (by omega) (ev_if_neg (by omega) ?_)
 by_cases h1 : r ≥ 55296
 ·refine ev_if_pos h1 ?_
  rw [show decide (r ≤ 57343) = false by simp; omega]
  exact hj
 ·exact ev_if_neg h1 hj
theorem refOf_loop (l : List Int) (hl : l.length ≤ 4398046511104) (hr : ∀ r ∈ l, isRune r) : ∀ (r pre acc : List Int), l = pre ++ r → acc.length ≤ 4 * pre.length →
  Ev (fun k => epitomeref01_Of.l0 k l acc (pre.length : Int)) (strOfNums (acc ++ encB r))
 | [], pre, acc, h, ha => by
  refine Ev.step (f := fun _ => some (strOfNums acc)) (fun k => ?_) (by simpa [encB] using Ev.now (strOfNums acc))
  rw [epitomeref01_Of.l0, if_neg (by subst h; simp)]
 | t :: r, pre, acc, h, ha => by
  have hlt : (pre.length : Int) < (l.length : Int) := by subst h; simp <;> omega
  have ht : isRune t := hr t (by rw [h]; simp)
  have hrd : rd l (pre.length : Int) = t := by subst h; unfold rd; simp [List.getD_eq_getElem?_getD]
  have hpl : pre.length < 4398046511104 := by omega
  have ht' := ht
  unfold isRune at ht'
  have w0 : wrap64 t = t := w64 (by omega) (by omega)
  have hz := size_is t ht
  have e64 : Int.tdiv t 64 = t / 64 := Int.tdiv_eq_ediv_of_nonneg (by omega)
  have e4096 : Int.tdiv t 4096 = t / 4096 := Int.tdiv_eq_ediv_of_nonneg (by omega)
  have e262144 : Int.tdiv t 262144 = t / 262144 := Int.tdiv_eq_ediv_of_nonneg (by omega)
  have m64 : Int.tmod t 64 = t % 64 := Int.tmod_eq_emod_of_nonneg (by omega)
  have w1 : wrap64 ((pre.length : Int) + 1) = ((pre ++ [t]).length : Int) := by rw [w64 (by omega) (by omega)]; simp
  have next : ∀ ys : List Int, ys = enc1 t → Ev (fun k => epitomeref01_Of.l0 k l (acc ++ ys) (wrap64 ((pre.length : Int) + 1))) (strOfNums (acc ++ encB (t :: r))) := by
   intro ys hy
   have := refOf_loop l hl hr r (pre ++ [t]) (acc ++ ys) (by simp [h]) (by have := enc1_length t; rw [hy]; simp <;> omega)
   rw [w1, encB_cons, ← List.append_assoc, ← hy]
   exact this
  refine Ev.step (f := fun k => _) (fun k => by rw [epitomeref01_Of.l0, if_pos hlt, if_pos (by omega), hrd, w0]) ?_
  refine Ev.bind hz ?_
  by_cases c1 : t < 128
  ·have hy : enc1 t = [t] := by unfold enc1; rw [if_pos c1]
   refine ev_if_pos (by rw [hy]; rfl) (ev_if_pos (by omega) ?_)
   exact next _ (by rw [hy, show t % 256 = t by omega])
  ·by_cases c2 : t < 2048
   ·have hy : enc1 t = [192 + t / 64, 128 + t % 64] := by unfold enc1; rw [if_neg c1, if_pos c2]
    refine ev_if_neg (by rw [hy]; simp) (ev_if_pos (by rw [hy]; rfl) (ev_some rfl (ev_if_pos (by simp; omega) ?_)))
    refine next _ ?_
    rw [hy, e64, m64]
    congr 1
    ·unfold wrap64; omega
    ·congr 1; unfold wrap64; omega
   ·by_cases c3 : t < 65536
    ·have hy : enc1 t = [224 + t / 4096, 128 + t / 64 % 64, 128 + t % 64] := by unfold enc1; rw [if_neg c1, if_neg c2, if_pos c3]
     refine ev_if_neg (by rw [hy]; simp) (ev_if_neg (by rw [hy]; simp) (ev_if_pos (by rw [hy]; rfl) (ev_some rfl (ev_if_pos (by simp; omega) ?_))))
     refine next _ ?_
     have m2 : Int.tmod (wrap64 (t / 64)) 64 = t / 64 % 64 := by rw [w64 (by omega) (by omega)]; exact Int.tmod_eq_emod_of_nonneg (by omega)
     rw [hy, e4096, e64, m64, m2]
     congr 1
     ·unfold wrap64; omega
     ·congr 1
      ·unfold wrap64; omega
      ·congr 1; unfold wrap64; omega
    ·have hy : enc1 t = [240 + t / 262144, 128 + t / 4096 % 64, 128 + t / 64 % 64, 128 + t % 64] := by unfold enc1; rw [if_neg c1, if_neg c2, if_neg c3]
     refine ev_if_neg (by rw [hy]; simp) (ev_if_neg (by rw [hy]; simp) (ev_if_neg (by rw [hy]; simp) (ev_if_pos (by rw [hy]; rfl) (ev_some rfl (ev_if_pos (by simp; omega) ?_)))))
     refine next _ ?_
     have m2 : Int.tmod (wrap64 (t / 64)) 64 = t / 64 % 64 := by rw [w64 (by omega) (by omega)]; exact Int.tmod_eq_emod_of_nonneg (by omega)
     have m3 : Int.tmod (wrap64 (t / 4096)) 64 = t / 4096 % 64 := by rw [w64 (by omega) (by omega)]; exact Int.tmod_eq_emod_of_nonneg (by omega)
     rw [hy, e262144, e4096, e64, m64, m2, m3]
     congr 1
     ·unfold wrap64; omega
     ·congr 1
      ·unfold wrap64; omega
      ·congr 1
       ·unfold wrap64; omega
       ·congr 1; unfold wrap64; omega
theorem refOf_is (l : List Int) (hl : l.length ≤ 4398046511104) (hr : ∀ r ∈ l, isRune r) : Ev (fun k => epitomeref01_Of.f k l) (encT l) := by
 unfold epitomeref01_Of.f
 exact refOf_loop l hl hr l [] [] rfl (by simp)
def alpha : List Int := [97, 98, 99, 120, 121, 233, 8364, 128512]
def fitRunes (s : ByteArray) : List Int := s.data.toList.map (fun b => alpha.getD (b.toNat % 8) 0)
theorem fitRunes_mem (s : ByteArray) : ∀ r ∈ fitRunes s, r ∈ alpha := by
 intro r hr
 unfold fitRunes at hr
 obtain ⟨b, _, rfl⟩ := List.mem_map.1 hr
 have hb : b.toNat % 8 < alpha.length := Nat.mod_lt _ (by decide)
 rw [List.getD_eq_getElem?_getD, List.getElem?_eq_getElem hb]
 exact List.getElem_mem hb
theorem alpha_rune : ∀ r ∈ alpha, isRune r := by
 intro r hr
 unfold isRune
 simp [alpha] at hr
 omega
theorem fitRunes_length (s : ByteArray) : (fitRunes s).length = s.size := by unfold fitRunes; rw [List.length_map, data_length]
theorem fit01_loop (s : ByteArray) (hs : s.size ≤ 1099511627776) : ∀ (r pre : List UInt8), s.data.toList = pre ++ r →
  Ev (fun k => epitomeref01_Fit.l0 k s (pre.map (fun b => alpha.getD (b.toNat % 8) 0)) (pre.length : Int) 97 98 99 120 121 233 8364 128512) (encT (fitRunes s))
 | [], pre, h => by
  have hz : pre.length = s.size := by rw [← data_length, h]; simp
  refine Ev.step (f := fun k => (epitomeref01_Of.f k (fitRunes s)).bind fun t => some t) (fun k => ?_) ?_
  ·rw [epitomeref01_Fit.l0, if_neg (by omega)]
   unfold fitRunes
   rw [h, List.append_nil]
  ·exact Ev.bind (refOf_is _ (by rw [fitRunes_length]; omega) (fun r hr => alpha_rune r (fitRunes_mem s r hr))) (Ev.now _)
 | b :: r, pre, h => by
  have hz : pre.length + (r.length + 1) = s.size := by rw [← data_length, h, List.length_append, List.length_cons]
  have hbt : bt s (pre.length : Int) = b.toNat := by
   rw [← rd_bytesOf]
   unfold rd bytesOf
   rw [h]
   simp [List.getD_eq_getElem?_getD]
  refine Ev.step (f := fun k => epitomeref01_Fit.l0 k s ((pre ++ [b]).map (fun b => alpha.getD (b.toNat % 8) 0)) ((pre ++ [b]).length : Int) 97 98 99 120 121 233 8364 128512) (fun k => ?_) (fit01_loop s hs r (pre ++ [b]) (by simp [h]))
  rw [epitomeref01_Fit.l0, if_pos (by omega), if_pos (by omega), hbt]
  have hf : fit_rune.f 97 98 99 120 121 233 8364 128512 (Int.tmod (b.toNat : Int) 8) = some (alpha.getD (b.toNat % 8) 0) := by
   unfold fit_rune.f
   rw [show (Int.tmod (b.toNat : Int) 8).toNat = b.toNat % 8 by rw [Int.tmod_eq_emod_of_nonneg (by omega)]; omega]
   have hb : b.toNat % 8 < alpha.length := Nat.mod_lt _ (by decide)
   rw [List.getD_eq_getElem?_getD, List.getElem?_eq_getElem hb]
   exact List.getElem?_eq_getElem hb
  rw [hf, Option.bind_some, if_pos (by simp; omega), w64 (by omega) (by omega)]
  simp
theorem fit01_is (s : ByteArray) (hs : s.size ≤ 1099511627776) : Ev (fun k => epitomeref01_Fit.f k s) (encT (fitRunes s)) := by
 unfold epitomeref01_Fit.f
 exact fit01_loop s hs s.data.toList [] rfl
end Go.Proofs.YthhgobiaecehbaaDoor.F
end
section
namespace Go.Proofs.YthhgobiaecehbaaDoor.F
open Go.RowKit Go.Proofs.YthhgobiaecehbaaDoorW.PrintWords Go.Proofs.YthhgobiaecehbaaDoorW.PrintLast Go.Proofs.YthhgobiaecehbaaDoorW.PrintMore
set_option linter.unusedVariables false
set_option linter.unusedSimpArgs false
inductive Un where
 | keep (n : Nat)
 | put (l : List Int)
 | drop (n : Nat)
def Un.sp : Un → Sp
 | .keep n => ⟨1, n, ⟨#[]⟩⟩
 | .put l => ⟨2, 0, encT l⟩
 | .drop n => ⟨3, n, ⟨#[]⟩⟩
def Un.cin : Un → Nat
 | .keep n => n
 | .put _ => 0
 | .drop n => n
def Un.cout : Un → Nat
 | .keep n => n
 | .put l => l.length
 | .drop _ => 0
def Un.few : Un → Prop
 | .keep n => n ≤ 63
 | .put l => l.length ≤ 6 ∧ ∀ r ∈ l, r ∈ alpha
 | .drop n => n ≤ 63
theorem kind_range (x : Int) (h : -9223372036854775808 ≤ x) (h2 : x ≤ 9223372036854775807) :
  let k := wrap64 (1 + Int.tmod (wrap64 (Int.tmod x 3 + 3)) 3); k = 1 ∨ k = 2 ∨ k = 3 := by
 intro k
 have h1 : -3 < Int.tmod x 3 := by have := Int.lt_tmod_of_pos x (show (0 : Int) < 3 by decide); omega
 have h3 : Int.tmod x 3 < 3 := Int.tmod_lt_of_pos x (by decide)
 have e : wrap64 (Int.tmod x 3 + 3) = Int.tmod x 3 + 3 := w64 (by omega) (by omega)
 have e2 : Int.tmod (Int.tmod x 3 + 3) 3 = (Int.tmod x 3 + 3) % 3 := Int.tmod_eq_emod_of_nonneg (by omega)
 have e3 : k = 1 + (Int.tmod x 3 + 3) % 3 := by
  show wrap64 _ = _
  rw [e, e2, w64 (by omega) (by omega)]
 omega
theorem many_range (x : Int) (h : -9223372036854775808 ≤ x) (h2 : x ≤ 9223372036854775807) :
  0 ≤ Int.tmod (wrap64 (Int.tmod x 7 + 7)) 7 ∧ Int.tmod (wrap64 (Int.tmod x 7 + 7)) 7 ≤ 6 := by
 have h1 : -7 < Int.tmod x 7 := by have := Int.lt_tmod_of_pos x (show (0 : Int) < 7 by decide); omega
 have h3 : Int.tmod x 7 < 7 := Int.tmod_lt_of_pos x (by decide)
 rw [w64 (by omega) (by omega), Int.tmod_eq_emod_of_nonneg (by omega)]
 omega
theorem mn_le (a b : Int) : mn a b ≤ a ∧ mn a b ≤ b ∧ (mn a b = a ∨ mn a b = b) := by
 unfold mn
 split <;> omega
theorem extract_size (s : ByteArray) (n : Nat) : (s.extract 0 n).size ≤ n := by
 rw [ByteArray.size_extract]
 omega
theorem fit04_end (l : List Sp) (m : Nat) (acc : List Sp) (i : Int) (hacc : acc.length ≤ 12) :
  Ev (fun k => epitomeref04_Fit.j1 k l (m : Int) acc i false) (acc ++ (if m = 0 then ([] : List Un) else [Un.keep m]).map Un.sp) := by
 by_cases h : m = 0
 ·subst h
  refine Ev.step (f := fun _ => some acc) (fun k => ?_) (by simpa using Ev.now acc)
  rw [epitomeref04_Fit.j1, if_neg (by simp), if_neg (by simp)]
 ·refine Ev.step (f := fun _ => some (acc ++ [⟨1, (m : Int), ⟨#[]⟩⟩])) (fun k => ?_) (by rw [if_neg h]; exact Ev.now _)
  rw [epitomeref04_Fit.j1, if_neg (by simp), if_pos (by omega), if_pos (by omega)]
theorem rem64 (x : Int) (h : (Lit.int .u8 x).wf = true) : ∃ n : Nat, n ≤ 63 ∧ wrap64 (Int.tmod x 64) = (n : Int) := by
 have := wf_u8 h
 have h1 : 0 ≤ Int.tmod x 64 := Int.tmod_nonneg _ this.1
 have h2 : Int.tmod x 64 < 64 := Int.tmod_lt_of_pos _ (by decide)
 refine ⟨(Int.tmod x 64).toNat, by omega, ?_⟩
 rw [w64 (by omega) (by omega)]
 omega
end Go.Proofs.YthhgobiaecehbaaDoor.F
end
section
namespace Go.Proofs.YthhgobiaecehbaaDoor.F
open Go.RowKit Go.Proofs.YthhgobiaecehbaaDoorW.PrintWords Go.Proofs.YthhgobiaecehbaaDoorW.PrintLast Go.Proofs.YthhgobiaecehbaaDoorW.PrintMore
set_option linter.unusedVariables false
set_option linter.unusedSimpArgs false
theorem joinS_assoc (a b c : Sp) : joinS (joinS a b) c = joinS a (joinS b c) := by
 unfold joinS
 have e : wrap64 (wrap64 (a.f1 + b.f1) + c.f1) = wrap64 (a.f1 + wrap64 (b.f1 + c.f1)) := by unfold wrap64; omega
 simp only [e, ByteArray.append_assoc]
theorem runs_head (r : List Sp) (c : Sp) : ∃ d q, runs c r = d :: q ∧ d.f0 = c.f0 := by
 induction r generalizing c with
 | nil => exact ⟨c, [], rfl, rfl⟩
 | cons t r ih =>
  rw [runs]
  split
  ·obtain ⟨d, q, e, h⟩ := ih (joinS c t)
   exact ⟨d, q, e, h⟩
  ·exact ⟨c, _, rfl, rfl⟩
theorem merge_runs_left (b : List Sp) : ∀ (a : List Sp) (c : Sp), mergeS (runs c a ++ b) = runs c (a ++ b)
 | [], c => rfl
 | t :: r, c => by
  rw [List.cons_append, runs, runs]
  by_cases h : t.f0 = c.f0
  ·rw [if_pos h, if_pos h]
   exact merge_runs_left b r (joinS c t)
  ·rw [if_neg h, if_neg h]
   obtain ⟨d, q, e, hd⟩ := runs_head r t
   have ih := merge_runs_left b r t
   rw [e] at ih ⊢
   show runs c (d :: (q ++ b)) = _
   rw [runs, if_neg (by rw [hd]; exact h), ← ih]
   rfl
theorem merge_idem (r : List Sp) (t : Sp) : mergeS (runs t r) = runs t r := by
 have := merge_runs_left [] r t
 simpa using this
theorem runs_runs : ∀ (r : List Sp) (t c : Sp), runs c (runs t r) = runs c (t :: r)
 | [], t, c => rfl
 | u :: r, t, c => by
  by_cases hu : u.f0 = t.f0
  ·have e1 : runs t (u :: r) = runs (joinS t u) r := by rw [runs, if_pos hu]
   rw [e1, runs_runs r (joinS t u) c]
   by_cases ht : t.f0 = c.f0
   ·have e2 : runs c (joinS t u :: r) = runs (joinS c (joinS t u)) r := by rw [runs, if_pos (show (joinS t u).f0 = c.f0 from ht)]
    have e3 : runs c (t :: u :: r) = runs (joinS (joinS c t) u) r := by rw [runs, if_pos ht, runs, if_pos (by show u.f0 = c.f0; rw [hu, ht])]
    rw [e2, e3, joinS_assoc]
   ·have e2 : runs c (joinS t u :: r) = c :: runs (joinS t u) r := by rw [runs, if_neg (show ¬ (joinS t u).f0 = c.f0 from ht)]
    have e3 : runs c (t :: u :: r) = c :: runs (joinS t u) r := by rw [runs, if_neg ht, runs, if_pos hu]
    rw [e2, e3]
  ·have e1 : runs t (u :: r) = t :: runs u r := by rw [runs, if_neg hu]
   rw [e1]
   by_cases ht : t.f0 = c.f0
   ·rw [runs, if_pos ht, runs_runs r u (joinS c t), runs, runs, if_pos ht]
    rw [runs]
   ·have e3 : runs c (t :: u :: r) = c :: t :: runs u r := by rw [runs, if_neg ht, runs, if_neg hu]
    rw [e3, runs, if_neg ht]
    have := merge_idem r u
    have h2 := runs_runs r u t
    rw [h2, runs, if_neg hu]
theorem runs_right (b : List Sp) : ∀ (a : List Sp) (c : Sp), runs c (a ++ mergeS b) = runs c (a ++ b)
 | [], c => by
  cases b with
  | nil => rfl
  | cons t r => exact runs_runs r t c
 | t :: a, c => by
  rw [List.cons_append, List.cons_append, runs, runs, runs_right b a, runs_right b a]
theorem merge_right (a b : List Sp) : mergeS (a ++ mergeS b) = mergeS (a ++ b) := by
 cases a with
 | nil =>
  cases b with
  | nil => rfl
  | cons t r => exact merge_idem r t
 | cons c a => exact runs_right b a c
theorem w64_succ (n : Nat) (h : n ≤ 4611686018427387904) : wrap64 ((n : Int) + 1) = ((n + 1 : Nat) : Int) := by
 rw [w64 (by omega) (by omega)]
 omega
end Go.Proofs.YthhgobiaecehbaaDoor.F
end
section
namespace Go.Proofs.YthhgobiaecehbaaDoor.F
open Go.RowKit Go.Proofs.YthhgobiaecehbaaDoorW.PrintWords Go.Proofs.YthhgobiaecehbaaDoorW.PrintLast Go.Proofs.YthhgobiaecehbaaDoorW.PrintMore
set_option linter.unusedVariables false
set_option linter.unusedSimpArgs false
def encL (l : List Int) : List UInt8 := (encB l).map (fun n => UInt8.ofNat n.toNat)
theorem encT_list (l : List Int) : (encT l).data.toList = encL l := by unfold encT encL strOfNums; simp
theorem encL_cons (r : Int) (l : List Int) : encL (r :: l) = (enc1 r).map (fun n => UInt8.ofNat n.toNat) ++ encL l := by unfold encL; rw [encB_cons, List.map_append]
theorem u8n (n : Nat) (h : n < 256) : (UInt8.ofNat n).toNat = n := by simp [UInt8.toNat_ofNat']; omega
theorem enc1_nat (m : Nat) : (enc1 (m : Int)).map (fun n => UInt8.ofNat n.toNat) =
  if m < 128 then [UInt8.ofNat m] else if m < 2048 then [UInt8.ofNat (192 + m / 64), UInt8.ofNat (128 + m % 64)]
  else if m < 65536 then [UInt8.ofNat (224 + m / 4096), UInt8.ofNat (128 + m / 64 % 64), UInt8.ofNat (128 + m % 64)]
  else [UInt8.ofNat (240 + m / 262144), UInt8.ofNat (128 + m / 4096 % 64), UInt8.ofNat (128 + m / 64 % 64), UInt8.ofNat (128 + m % 64)] := by
 unfold enc1
 by_cases h1 : m < 128
 ·rw [if_pos h1, if_pos (by omega)]; simp
 ·rw [if_neg h1, if_neg (by omega)]
  by_cases h2 : m < 2048
  ·rw [if_pos h2, if_pos (by omega)]
   simp only [List.map_cons, List.map_nil]
   rw [show (192 + (m : Int) / 64).toNat = 192 + m / 64 by omega, show (128 + (m : Int) % 64).toNat = 128 + m % 64 by omega]
  ·rw [if_neg h2, if_neg (by omega)]
   by_cases h3 : m < 65536
   ·rw [if_pos h3, if_pos (by omega)]
    simp only [List.map_cons, List.map_nil]
    rw [show (224 + (m : Int) / 4096).toNat = 224 + m / 4096 by omega, show (128 + (m : Int) / 64 % 64).toNat = 128 + m / 64 % 64 by omega, show (128 + (m : Int) % 64).toNat = 128 + m % 64 by omega]
   ·rw [if_neg h3, if_neg (by omega)]
    simp only [List.map_cons, List.map_nil]
    rw [show (240 + (m : Int) / 262144).toNat = 240 + m / 262144 by omega, show (128 + (m : Int) / 4096 % 64).toNat = 128 + m / 4096 % 64 by omega, show (128 + (m : Int) / 64 % 64).toNat = 128 + m / 64 % 64 by omega, show (128 + (m : Int) % 64).toNat = 128 + m % 64 by omega]
theorem decode1 (m n : Nat) (b1 b2 b3 : Nat) (h : m < 128) : Lib.decodeN n m b1 b2 b3 = (m, 1) := by unfold Lib.decodeN; rw [if_pos h]
theorem decode2 (m n : Nat) (b2 b3 : Nat) (h : ¬ m < 128) (h2 : m < 2048) (hn : 2 ≤ n) : Lib.decodeN n (192 + m / 64) (128 + m % 64) b2 b3 = (m, 2) := by
 unfold Lib.decodeN
 rw [if_neg (by omega), if_pos ⟨by omega, by omega, by omega⟩, if_pos (by omega)]
 congr 1
 omega
theorem decode3 (m n : Nat) (b3 : Nat) (h2 : ¬ m < 2048) (h3 : m < 65536) (hv : m < 55296 ∨ 57344 ≤ m) (hn : 3 ≤ n) : Lib.decodeN n (224 + m / 4096) (128 + m / 64 % 64) (128 + m % 64) b3 = (m, 3) := by
 unfold Lib.decodeN
 have e : (224 + m / 4096) % 16 * 4096 + (128 + m / 64 % 64) % 64 * 64 + (128 + m % 64) % 64 = m := by omega
 rw [if_neg (by omega), if_neg (by omega), if_pos ⟨by omega, ⟨by omega, by omega⟩, by omega, by omega⟩, e, if_pos (by omega)]
theorem decode4 (m n : Nat) (h3 : ¬ m < 65536) (hv : m ≤ 1114111) (hn : 4 ≤ n) : Lib.decodeN n (240 + m / 262144) (128 + m / 4096 % 64) (128 + m / 64 % 64) (128 + m % 64) = (m, 4) := by
 unfold Lib.decodeN
 have e : (240 + m / 262144) % 8 * 262144 + (128 + m / 4096 % 64) % 64 * 4096 + (128 + m / 64 % 64) % 64 * 64 + (128 + m % 64) % 64 = m := by omega
 rw [if_neg (by omega), if_neg (by omega), if_neg (by omega), if_pos ⟨by omega, ⟨by omega, by omega⟩, ⟨by omega, by omega⟩, by omega, by omega⟩, e, if_pos (by omega)]
theorem decodeL_enc (r : Int) (h : isRune r) (rest : List UInt8) : Lib.decodeL ((enc1 r).map (fun n => UInt8.ofNat n.toNat) ++ rest) = (r.toNat, (enc1 r).length) := by
 have hr : ∃ m : Nat, r = (m : Int) := ⟨r.toNat, by unfold isRune at h; omega⟩
 obtain ⟨m, rfl⟩ := hr
 have hv : m < 55296 ∨ (57344 ≤ m ∧ m ≤ 1114111) := by unfold isRune at h; omega
 have hlen : (enc1 (m : Int)).length = if m < 128 then 1 else if m < 2048 then 2 else if m < 65536 then 3 else 4 := by
  have := congrArg List.length (enc1_nat m)
  rw [List.length_map] at this
  rw [this]
  split
  ·rfl
  ·split
   ·rfl
   ·split <;> rfl
 rw [enc1_nat m, hlen, Lib.decodeL_N, Int.toNat_natCast]
 by_cases h1 : m < 128
 ·simp only [if_pos h1]
  have := decode1 m (1 + rest.length) (((UInt8.ofNat m :: rest).getD 1 0).toNat) (((UInt8.ofNat m :: rest).getD 2 0).toNat) (((UInt8.ofNat m :: rest).getD 3 0).toNat) h1
  simp only [List.cons_append, List.nil_append, List.length_cons, List.getD_cons_zero, u8n m (by omega)]
  exact decode1 _ _ _ _ _ h1
 ·simp only [if_neg h1]
  by_cases h2 : m < 2048
  ·simp only [if_pos h2, List.cons_append, List.nil_append, List.length_cons, List.getD_cons_zero, List.getD_cons_succ, u8n (192 + m / 64) (by omega), u8n (128 + m % 64) (by omega)]
   exact decode2 _ _ _ _ h1 h2 (by omega)
  ·simp only [if_neg h2]
   by_cases h3 : m < 65536
   ·simp only [if_pos h3, List.cons_append, List.nil_append, List.length_cons, List.getD_cons_zero, List.getD_cons_succ, u8n (224 + m / 4096) (by omega), u8n (128 + m / 64 % 64) (by omega), u8n (128 + m % 64) (by omega)]
    exact decode3 _ _ _ h2 h3 (by omega) (by omega)
   ·simp only [if_neg h3, List.cons_append, List.nil_append, List.length_cons, List.getD_cons_zero, List.getD_cons_succ, u8n (240 + m / 262144) (by omega), u8n (128 + m / 4096 % 64) (by omega), u8n (128 + m / 64 % 64) (by omega), u8n (128 + m % 64) (by omega)]
    exact decode4 _ _ h3 (by omega) (by omega)
def Runes (l : List Int) : Prop := ∀ r ∈ l, isRune r
theorem Runes.cons {r : Int} {l : List Int} (h : Runes (r :: l)) : isRune r ∧ Runes l := ⟨h r (by simp), fun x hx => h x (by simp [hx])⟩
theorem Runes.append {a b : List Int} (ha : Runes a) (hb : Runes b) : Runes (a ++ b) := fun x hx => (List.mem_append.1 hx).elim (ha x) (hb x)
theorem Runes.take {a : List Int} (h : Runes a) (n : Nat) : Runes (a.take n) := fun x hx => h x (List.mem_of_mem_take hx)
theorem Runes.drop {a : List Int} (h : Runes a) (n : Nat) : Runes (a.drop n) := fun x hx => h x (List.mem_of_mem_drop hx)
theorem Runes.nil : Runes [] := fun x hx => by cases hx
theorem size_none : (⟨#[]⟩ : ByteArray).size = 0 := rfl
theorem encL_ne (r : Int) (l : List Int) : encL (r :: l) ≠ [] := by
 have := enc1_length r
 intro h
 have h2 := congrArg List.length h
 rw [encL_cons, List.length_append, List.length_map, List.length_nil] at h2
 omega
theorem drop_enc (r : Int) (l : List Int) : (encL (r :: l)).drop (enc1 r).length = encL l := by
 rw [encL_cons, List.drop_left' (by simp)]
theorem validD_enc : ∀ (l : List Int), Runes l → Lib.validD (encL l) = true
 | [], _ => rfl
 | r :: l, h => by
  obtain ⟨h1, h2⟩ := h.cons
  rw [Lib.validD_step _ (encL_ne r l)]
  have hd : Lib.decodeL (encL (r :: l)) = (r.toNat, (enc1 r).length) := by rw [encL_cons]; exact decodeL_enc r h1 _
  rw [hd, drop_enc, if_neg ?_]
  ·exact validD_enc l h2
  ·rintro ⟨e1, e2⟩
   have e1 : r.toNat = 65533 := e1
   have e2 : (enc1 r).length = 1 := e2
   have hr : r = 65533 := by unfold isRune at h1; omega
   subst hr
   simp [enc1] at e2
theorem decode_at_enc (a : List Int) (r : Int) (b : List Int) (h : isRune r) : Utf8.decode (encT (a ++ r :: b)) (encT a).size = (r.toNat, (enc1 r).length) := by
 have hd : (encT (a ++ r :: b)).data.toList.drop (encT a).size = encL (r :: b) := by
  rw [encT_list]
  unfold encL
  rw [encB_append, List.map_append, List.drop_left']
  rw [List.length_map]
  unfold encT
  rw [strOfNums_size]
 rw [← Lib.decodeL_drop, hd, encL_cons]
 exact decodeL_enc r h _
theorem encT_snoc_size (a : List Int) (r : Int) : (encT (a ++ [r])).size = (encT a).size + (enc1 r).length := by
 unfold encT
 rw [strOfNums_size, strOfNums_size, encB_append, List.length_append]
 simp [encB]
theorem encT_lt (a : List Int) (r : Int) (b : List Int) : (encT a).size < (encT (a ++ r :: b)).size := by
 have := (enc1_length r).1
 unfold encT
 rw [strOfNums_size, strOfNums_size, encB_append, List.length_append, encB_cons, List.length_append]
 omega
theorem runeCount_from : ∀ (b a : List Int) (n : Nat), Runes b → b.length ≤ n → Lib.runeCountFrom (encT (a ++ b)) n (encT a).size = b.length
 | [], a, n, h, hn => by
  rw [Lib.runeCountFrom_end _ _ _ (by simp)]
  rfl
 | r :: b, a, 0, h, hn => by simp at hn
 | r :: b, a, n + 1, h, hn => by
  obtain ⟨h1, h2⟩ := h.cons
  rw [Lib.runeCountFrom, if_pos (encT_lt a r b), decode_at_enc a r b h1]
  have := runeCount_from b (a ++ [r]) n h2 (by simp at hn; omega)
  rw [encT_snoc_size, List.append_assoc, List.singleton_append] at this
  show 1 + Lib.runeCountFrom _ n ((encT a).size + (enc1 r).length) = _
  rw [this, List.length_cons]
  omega
theorem runeCount_enc (l : List Int) (h : Runes l) : Lib.runeCount (encT l) = l.length := by
 have := runeCount_from l [] (encT l).size h (encT_size l).1
 simpa [Lib.runeCount, encT_nil, size_none] using this
theorem runesL_from : ∀ (b a : List Int) (n : Nat), Runes b → b.length ≤ n → runesL (encT (a ++ b)) n (encT a).size = b
 | [], a, 0, h, hn => rfl
 | [], a, n + 1, h, hn => by
  rw [runesL, if_neg (by simp)]
 | r :: b, a, 0, h, hn => by simp at hn
 | r :: b, a, n + 1, h, hn => by
  obtain ⟨h1, h2⟩ := h.cons
  rw [runesL, if_pos (encT_lt a r b), decode_at_enc a r b h1]
  have := runesL_from b (a ++ [r]) n h2 (by simp at hn; omega)
  rw [encT_snoc_size, List.append_assoc, List.singleton_append] at this
  show ((r.toNat : Nat) : Int) :: runesL _ n ((encT a).size + (enc1 r).length) = _
  rw [this]
  congr 1
  unfold isRune at h1
  omega
theorem runesL_enc (l : List Int) (h : Runes l) : runesL (encT l) (encT l).size 0 = l := by
 have := runesL_from l [] (encT l).size h (encT_size l).1
 simpa [encT_nil, size_none] using this
theorem encode_nat (r : Int) (h : isRune r) : Utf8.encode r = strOfNums (enc1 r) := by
 have hv : Utf8.valid r = true := by
  unfold isRune at h
  unfold Utf8.valid
  simp
  omega
 obtain ⟨m, rfl⟩ : ∃ m : Nat, r = (m : Int) := ⟨r.toNat, by unfold isRune at h; omega⟩
 have he : strOfNums (enc1 (m : Int)) = ⟨((enc1 (m : Int)).map (fun n => UInt8.ofNat n.toNat)).toArray⟩ := rfl
 rw [he, enc1_nat m]
 unfold Utf8.encode
 simp only [hv, if_true, Int.toNat_natCast]
 by_cases h1 : m < 128
 ·simp only [if_pos h1]
 ·simp only [if_neg h1]
  by_cases h2 : m < 2048
  ·simp only [if_pos h2]
  ·simp only [if_neg h2]
   by_cases h3 : m < 65536
   ·simp only [if_pos h3]
   ·simp only [if_neg h3]
theorem runesBytes_from : ∀ (l : List Int) (s : ByteArray), Runes l → l.foldl (fun r n => r ++ Utf8.encode n) s = s ++ encT l
 | [], s, h => by
  show s = s ++ encT []
  rw [encT_nil]
  apply ByteArray.ext
  simp [ByteArray.data_append]
 | r :: l, s, h => by
  obtain ⟨h1, h2⟩ := h.cons
  rw [List.foldl_cons, runesBytes_from l _ h2, encode_nat r h1]
  have : encT (r :: l) = strOfNums (enc1 r) ++ encT l := by
   unfold encT
   rw [encB_cons, strOfNums_append]
  rw [this]
  apply ByteArray.ext
  simp [ByteArray.data_append]
theorem runesBytes_enc (l : List Int) (h : Runes l) : runesBytes l = encT l := by
 unfold runesBytes
 rw [runesBytes_from l _ h]
 apply ByteArray.ext
 simp [ByteArray.data_append]
theorem big_enc {l : List Int} (h : l.length ≤ 1099511627776) : (encT l).size ≤ 4398046511104 := by
 have := (encT_size l).2
 omega
theorem validStr_enc (l : List Int) (h : Runes l) (hl : l.length ≤ 1099511627776) : points_Valid.f (encT l) = some true := by
 have := big_enc hl
 exact valid_some (by omega) (by rw [encT_list]; exact validD_enc l h)
theorem count_enc (l : List Int) (h : Runes l) (hl : l.length ≤ 1099511627776) : points_Count.f (encT l) = some (l.length : Int) := by
 have := big_enc hl
 unfold points_Count.f
 rw [if_pos (by omega), encT_list, validD_enc l h, if_pos rfl, runeCount_enc l h]
theorem strRunes_enc (l : List Int) (h : Runes l) (hl : l.length ≤ 1099511627776) : str_runes.f (encT l) = some l := by
 have := big_enc hl
 unfold str_runes.f
 rw [if_pos (by omega), runesL_enc l h]
theorem extract_enc (a b c : List Int) : (encT (a ++ (b ++ c))).extract (encT a).size (encT (a ++ b)).size = encT b := by
 apply ByteArray.ext
 rw [ByteArray.data_extract]
 apply Array.ext'
 rw [Array.toList_extract, encT_list, encT_list]
 have h1 : (encT a).size = (encL a).length := by rw [← encT_list, data_length]
 have h2 : (encT (a ++ b)).size = (encL (a ++ b)).length := by rw [← encT_list, data_length]
 rw [h1, h2]
 unfold encL
 rw [encB_append, encB_append, encB_append, List.map_append, List.map_append, List.map_append, List.length_append]
 simp [List.extract_eq_take_drop]
end Go.Proofs.YthhgobiaecehbaaDoor.F
end
section
namespace Go.Proofs.YthhgobiaecehbaaDoor.F
open Go.RowKit Go.Proofs.YthhgobiaecehbaaDoorW.PrintWords Go.Proofs.YthhgobiaecehbaaDoorW.PrintLast Go.Proofs.YthhgobiaecehbaaDoorW.PrintMore
set_option linter.unusedVariables false
set_option linter.unusedSimpArgs false
def Un.ok : Un → Prop
 | .put l => Runes l
 | _ => True
structure Ok (us : List Un) : Prop where
 ok : ∀ u ∈ us, u.ok
 len : us.length ≤ 2097152
 cin : (us.map Un.cin).sum ≤ 1048576
 cout : (us.map Un.cout).sum ≤ 1099511627776
theorem Ok.cout_mem {us : List Un} (h : Ok us) {u : Un} (hu : u ∈ us) : u.cout ≤ 1099511627776 := by
 have h1 := h.cout
 have : u.cout ≤ (us.map Un.cout).sum := by
  clear h1 h
  induction us with
  | nil => cases hu
  | cons v us ih =>
   rw [List.map_cons, List.sum_cons]
   rcases List.mem_cons.1 hu with rfl | hu
   ·omega
   ·have := ih hu; omega
 omega
theorem Ok.tail {u : Un} {us : List Un} (h : Ok (u :: us)) : Ok us := by
 have h1 := h.len
 have h2 := h.cin
 have h3 := h.cout
 simp only [List.map_cons, List.sum_cons, List.length_cons] at h1 h2 h3
 exact ⟨fun v hv => h.ok v (by simp [hv]), by omega, by omega, by omega⟩
theorem none_valid : points_Valid.f ⟨#[]⟩ = some true := validStr_enc [] Runes.nil (by simp)
theorem spanMay_keep (n : Nat) (k3 : Int) (hk : k3 = 1 ∨ k3 = 3) (h : n ≤ 1048576) : Ev (fun k => span_May.f k k3 (n : Int) ⟨#[]⟩) 0 := by
 have hv := none_valid
 have hn : (⟨#[]⟩ : ByteArray).toList = [] := by rw [ByteArray.toList_eq]
 have hd : decide ((n : Int) > 1048576) = false := by simp; omega
 have j2 : Ev (fun k => span_May.j2 k false k3 (n : Int) ⟨#[]⟩) 0 := by
  refine Ev.step (f := fun _ => some 0) (fun k => ?_) (Ev.now _)
  rw [span_May.j2, if_neg (by simp), hv]
  rfl
 have j1 : ∀ b, Ev (fun k => span_May.j1 k false k3 (n : Int) ⟨#[]⟩ true b) 0 := by
  intro b
  refine Ev.step (f := fun k => span_May.j2 k false k3 (n : Int) ⟨#[]⟩) (fun k => ?_) j2
  rw [span_May.j1, if_neg (by simp), if_pos rfl, hn]
  rfl
 have j0 : ∀ b, Ev (fun k => span_May.j0 k false k3 (n : Int) ⟨#[]⟩ true b) 0 := by
  intro b
  refine Ev.step (f := fun k => span_May.j1 k false k3 (n : Int) ⟨#[]⟩ true b) (fun k => ?_) (j1 b)
  rw [span_May.j0, if_neg (by simp), if_pos rfl]
 have hso : ∃ b, span_of.f k3 (n : Int) ⟨#[]⟩ = some (true, b, true) := by
  rcases hk with rfl | rfl
  ·exact ⟨true, rfl⟩
  ·exact ⟨false, rfl⟩
 obtain ⟨b, hso⟩ := hso
 unfold span_May.f
 refine ev_some hso (ev_if_pos rfl (ev_if_pos rfl (ev_if_neg (by omega) ?_)))
 rw [hd]
 exact j0 b
theorem spanMay_put (l : List Int) (hl : Runes l) (h : l.length ≤ 1099511627776) : Ev (fun k => span_May.f k 2 0 (encT l)) 0 := by
 have hv := validStr_enc l hl h
 have j2 : Ev (fun k => span_May.j2 k false 2 0 (encT l)) 0 := by
  refine Ev.step (f := fun _ => some 0) (fun k => ?_) (Ev.now _)
  rw [span_May.j2, if_neg (by simp), hv]
  rfl
 have j1 : Ev (fun k => span_May.j1 k false 2 0 (encT l) false false) 0 := by
  refine Ev.step (f := fun k => span_May.j2 k false 2 0 (encT l)) (fun k => ?_) j2
  rw [span_May.j1, if_neg (by simp), if_neg (by simp)]
 have j0 : Ev (fun k => span_May.j0 k false 2 0 (encT l) false false) 0 := by
  refine Ev.step (f := fun k => span_May.j1 k false 2 0 (encT l) false false) (fun k => ?_) j1
  rw [span_May.j0, if_neg (by simp), if_neg (by simp)]
  rfl
 unfold span_May.f
 exact ev_some (show span_of.f 2 0 (encT l) = some (false, false, true) from rfl) (ev_if_pos rfl (ev_if_neg (by simp) j0))
theorem spanMay_is (u : Un) (h : u.ok) (h1 : u.cin ≤ 1048576) (h2 : u.cout ≤ 1099511627776) : Ev (fun k => span_May.f k u.sp.f0 u.sp.f1 u.sp.f2) 0 := by
 cases u with
 | keep n => exact spanMay_keep n 1 (.inl rfl) h1
 | put l => exact spanMay_put l h h2
 | drop n => exact spanMay_keep n 3 (.inr rfl) h1
theorem spanIn_is (u : Un) : span_In.f u.sp.f0 u.sp.f1 u.sp.f2 = some (u.cin : Int) := by
 cases u <;> rfl
theorem spanOut_is (u : Un) (h : u.ok) (h2 : u.cout ≤ 1099511627776) : span_Out.f u.sp.f0 u.sp.f1 u.sp.f2 = some (u.cout : Int) := by
 cases u with
 | keep n => rfl
 | put l =>
  unfold span_Out.f
  rw [show span_of.f (Un.put l).sp.f0 (Un.put l).sp.f1 (Un.put l).sp.f2 = some (false, false, true) from rfl, Option.bind_some, if_neg (by simp), if_pos (show (Un.put l).sp.f0 = 2 from rfl)]
  rw [show (Un.put l).sp.f2 = encT l from rfl, count_enc l h h2, Option.bind_some]
  unfold mx
  rw [show (Un.put l).cout = l.length from rfl]
  congr 1
 | drop n => rfl
theorem rowSum_loop (l : List Un) (hl : l.length ≤ 2097152) (hc : (l.map Un.cin).sum ≤ 1048576) : ∀ (r pre : List Un), l = pre ++ r →
  Ev (fun k => op_row_sum.l0 k (((pre.map Un.cin).sum : Nat) : Int) (l.map Un.sp) ((l.map Un.sp).length : Int) (pre.length : Int)) (((l.map Un.cin).sum : Nat) : Int)
 | [], pre, h => by
  refine Ev.step (f := fun _ => some (((l.map Un.cin).sum : Nat) : Int)) (fun k => ?_) (Ev.now _)
  rw [op_row_sum.l0, if_neg (by subst h; simp)]
  subst h
  simp
 | u :: r, pre, h => by
  have hlt : (pre.length : Int) < ((l.map Un.sp).length : Int) := by subst h; simp <;> omega
  have hll : pre.length + (r.length + 1) = l.length := by subst h; simp
  have hrd : rd_T41 (l.map Un.sp) (pre.length : Int) = u.sp := by
   rw [h, List.map_append, List.map_cons]
   exact rdS_at (by simp)
  have hs : (l.map Un.cin).sum = (pre.map Un.cin).sum + (u.cin + (r.map Un.cin).sum) := by rw [h]; simp
  have ih := rowSum_loop l hl hc r (pre ++ [u]) (by simp [h])
  refine Ev.step (fun k => ?_) ih
  rw [op_row_sum.l0, if_pos hlt, if_pos (by omega), if_pos hlt, hrd, spanIn_is, Option.bind_some, w64_succ _ (by omega), w64 (by omega) (by omega)]
  simp
theorem opIn_is {us : List Un} (h : Ok us) : Ev (fun k => op_In.f k (us.map Un.sp)) (((us.map Un.cin).sum : Nat) : Int) := by
 unfold op_In.f op_row_sum.f
 have := rowSum_loop us h.len h.cin us [] rfl
 exact Ev.bind (by simpa using this) (Ev.now _)
theorem rowSumOut_loop (l : List Un) (hl : Ok l) : ∀ (r pre : List Un), l = pre ++ r →
  Ev (fun k => op_row_sum_Out.l0 k (((pre.map Un.cout).sum : Nat) : Int) (l.map Un.sp) ((l.map Un.sp).length : Int) (pre.length : Int)) (((l.map Un.cout).sum : Nat) : Int)
 | [], pre, h => by
  refine Ev.step (f := fun _ => some (((l.map Un.cout).sum : Nat) : Int)) (fun k => ?_) (Ev.now _)
  rw [op_row_sum_Out.l0, if_neg (by subst h; simp)]
  subst h
  simp
 | u :: r, pre, h => by
  have hlt : (pre.length : Int) < ((l.map Un.sp).length : Int) := by subst h; simp <;> omega
  have hll : pre.length + (r.length + 1) = l.length := by subst h; simp
  have hle := hl.len
  have hco := hl.cout
  have hrd : rd_T41 (l.map Un.sp) (pre.length : Int) = u.sp := by
   rw [h, List.map_append, List.map_cons]
   exact rdS_at (by simp)
  have hs : (l.map Un.cout).sum = (pre.map Un.cout).sum + (u.cout + (r.map Un.cout).sum) := by rw [h]; simp
  have ih := rowSumOut_loop l hl r (pre ++ [u]) (by simp [h])
  refine Ev.step (fun k => ?_) ih
  rw [op_row_sum_Out.l0, if_pos hlt, if_pos (by omega), if_pos hlt, hrd, spanOut_is u (hl.ok u (by rw [h]; simp)) (by omega), Option.bind_some, w64_succ _ (by omega), w64 (by omega) (by omega)]
  simp
theorem opOut_is {us : List Un} (h : Ok us) : Ev (fun k => op_Out.f k (us.map Un.sp)) (((us.map Un.cout).sum : Nat) : Int) := by
 unfold op_Out.f op_row_sum_Out.f
 have := rowSumOut_loop us h us [] rfl
 exact Ev.bind (by simpa using this) (Ev.now _)
theorem opMay_loop (l : List Un) (hl : Ok l) : ∀ (r pre : List Un), l = pre ++ r →
  Ev (fun k => op_May.l0 k (l.map Un.sp) (l.map Un.sp) ((l.map Un.sp).length : Int) (pre.length : Int)) 0
 | [], pre, h => by
  have hci := hl.cin
  refine Ev.step (f := fun k => _) (fun k => by rw [op_May.l0, if_neg (by subst h; simp)]) ?_
  refine Ev.bind (opIn_is hl) ?_
  exact ev_if_neg (by omega) (Ev.now 0)
 | u :: r, pre, h => by
  have hlt : (pre.length : Int) < ((l.map Un.sp).length : Int) := by subst h; simp <;> omega
  have hll : pre.length + (r.length + 1) = l.length := by subst h; simp
  have hle := hl.len
  have hco := hl.cout
  have hci := hl.cin
  have hrd : rd_T41 (l.map Un.sp) (pre.length : Int) = u.sp := by
   rw [h, List.map_append, List.map_cons]
   exact rdS_at (by simp)
  have hs : (l.map Un.cout).sum = (pre.map Un.cout).sum + (u.cout + (r.map Un.cout).sum) := by rw [h]; simp
  have hs2 : (l.map Un.cin).sum = (pre.map Un.cin).sum + (u.cin + (r.map Un.cin).sum) := by rw [h]; simp
  have ih := opMay_loop l hl r (pre ++ [u]) (by simp [h])
  refine Ev.step (f := fun k => _) (fun k => by rw [op_May.l0, if_pos hlt, if_pos (by omega), if_pos hlt, hrd, w64_succ _ (by omega)]) ?_
  refine Ev.bind (spanMay_is u (hl.ok u (by rw [h]; simp)) (by omega) (by omega)) (ev_if_pos rfl ?_)
  simpa using ih
theorem opMay_is {us : List Un} (h : Ok us) : Ev (fun k => op_May.f k (us.map Un.sp)) 0 := by
 unfold op_May.f
 exact opMay_loop us h us [] rfl
end Go.Proofs.YthhgobiaecehbaaDoor.F
end
section
namespace Go.Proofs.YthhgobiaecehbaaDoor.F
open Go.RowKit Go.Proofs.YthhgobiaecehbaaDoorW.PrintWords Go.Proofs.YthhgobiaecehbaaDoorW.PrintLast Go.Proofs.YthhgobiaecehbaaDoorW.PrintMore
set_option linter.unusedVariables false
set_option linter.unusedSimpArgs false
theorem runs_length : ∀ (r : List Sp) (c : Sp), (runs c r).length ≤ r.length + 1
 | [], c => by simp [runs]
 | t :: r, c => by
  rw [runs]
  split
  ·have := runs_length r (joinS c t); simp; omega
  ·have := runs_length r t; simp; omega
end Go.Proofs.YthhgobiaecehbaaDoor.F
end
section
namespace Go.Proofs.YthhgobiaecehbaaDoor.F
open Go.RowKit Go.Proofs.YthhgobiaecehbaaDoorW.PrintWords Go.Proofs.YthhgobiaecehbaaDoorW.PrintLast Go.Proofs.YthhgobiaecehbaaDoorW.PrintMore
set_option linter.unusedVariables false
set_option linter.unusedSimpArgs false
inductive U where
 | k
 | d
 | p (r : Int)
deriving DecidableEq
def Un.ex : Un → List U
 | .keep n => List.replicate n .k
 | .put l => l.map .p
 | .drop n => List.replicate n .d
def exU (us : List Un) : List U := us.flatMap Un.ex
theorem exU_nil : exU [] = [] := rfl
theorem exU_cons (u : Un) (us : List Un) : exU (u :: us) = u.ex ++ exU us := by simp [exU]
def consU : U → List Un → List Un
 | .k, .keep n :: r => .keep (n + 1) :: r
 | .d, .drop n :: r => .drop (n + 1) :: r
 | .p c, .put l :: r => .put (c :: l) :: r
 | .k, r => .keep 1 :: r
 | .d, r => .drop 1 :: r
 | .p c, r => .put [c] :: r
def canon (x : List U) : List Un := x.foldr consU []
theorem canon_cons (u : U) (x : List U) : canon (u :: x) = consU u (canon x) := rfl
theorem canon_append (a b : List U) : canon (a ++ b) = a.foldr consU (canon b) := by unfold canon; rw [List.foldr_append]
theorem ex_consU (u : U) (c : List Un) : exU (consU u c) = u :: exU c := by
 cases u <;> rcases c with _ | ⟨v, r⟩ <;> first | rfl | (cases v <;> first | rfl | simp [consU, exU, Un.ex, List.replicate_succ])
theorem ex_canon : ∀ x : List U, exU (canon x) = x
 | [] => rfl
 | u :: x => by rw [canon_cons, ex_consU, ex_canon x]
def consUn : Un → List Un → List Un
 | .keep 0, c => c
 | .drop 0, c => c
 | .put [], c => c
 | .keep (n + 1), .keep m :: r => .keep (n + 1 + m) :: r
 | .drop (n + 1), .drop m :: r => .drop (n + 1 + m) :: r
 | .put (a :: l), .put m :: r => .put (a :: l ++ m) :: r
 | .keep (n + 1), c => .keep (n + 1) :: c
 | .drop (n + 1), c => .drop (n + 1) :: c
 | .put (a :: l), c => .put (a :: l) :: c
theorem foldr_keep : ∀ (n : Nat) (c : List Un), (List.replicate n U.k).foldr consU c = consUn (.keep n) c
 | 0, c => rfl
 | n + 1, c => by
  rw [List.replicate_succ, List.foldr_cons, foldr_keep n c]
  cases n with
  | zero => rcases c with _ | ⟨v, r⟩ <;> first | rfl | (cases v <;> first | rfl | simp [consUn, consU, Nat.add_comm])
  | succ n => rcases c with _ | ⟨v, r⟩ <;> first | rfl | (cases v <;> first | rfl | (simp only [consUn, consU]; congr 2; omega))
theorem foldr_drop : ∀ (n : Nat) (c : List Un), (List.replicate n U.d).foldr consU c = consUn (.drop n) c
 | 0, c => rfl
 | n + 1, c => by
  rw [List.replicate_succ, List.foldr_cons, foldr_drop n c]
  cases n with
  | zero => rcases c with _ | ⟨v, r⟩ <;> first | rfl | (cases v <;> first | rfl | simp [consUn, consU, Nat.add_comm])
  | succ n => rcases c with _ | ⟨v, r⟩ <;> first | rfl | (cases v <;> first | rfl | (simp only [consUn, consU]; congr 2; omega))
theorem foldr_put : ∀ (l : List Int) (c : List Un), (l.map U.p).foldr consU c = consUn (.put l) c
 | [], c => rfl
 | a :: l, c => by
  rw [List.map_cons, List.foldr_cons, foldr_put l c]
  cases l with
  | nil => rcases c with _ | ⟨v, r⟩ <;> first | rfl | (cases v <;> rfl)
  | cons b l => rcases c with _ | ⟨v, r⟩ <;> first | rfl | (cases v <;> rfl)
theorem canon_un (u : Un) (x : List U) : canon (u.ex ++ x) = consUn u (canon x) := by
 rw [canon_append]
 cases u with
 | keep n => exact foldr_keep n _
 | put l => exact foldr_put l _
 | drop n => exact foldr_drop n _
def cinU : List U → Nat
 | [] => 0
 | .p _ :: x => cinU x
 | _ :: x => cinU x + 1
def coutU : List U → Nat
 | [] => 0
 | .d :: x => coutU x
 | _ :: x => coutU x + 1
theorem cinU_append : ∀ a b : List U, cinU (a ++ b) = cinU a + cinU b
 | [], b => by simp [cinU]
 | u :: a, b => by cases u <;> simp [cinU, cinU_append a b] <;> omega
theorem coutU_append : ∀ a b : List U, coutU (a ++ b) = coutU a + coutU b
 | [], b => by simp [coutU]
 | u :: a, b => by cases u <;> simp [coutU, coutU_append a b] <;> omega
theorem cinU_un (u : Un) : cinU u.ex = u.cin := by
 cases u with
 | keep n => induction n with
  | zero => rfl
  | succ n ih => simp only [Un.ex, List.replicate_succ, cinU, Un.cin] at *; omega
 | put l => induction l with
  | nil => rfl
  | cons a l ih => simp only [Un.ex, List.map_cons, cinU, Un.cin] at *; omega
 | drop n => induction n with
  | zero => rfl
  | succ n ih => simp only [Un.ex, List.replicate_succ, cinU, Un.cin] at *; omega
theorem coutU_un (u : Un) : coutU u.ex = u.cout := by
 cases u with
 | keep n => induction n with
  | zero => rfl
  | succ n ih => simp only [Un.ex, List.replicate_succ, coutU, Un.cout] at *; omega
 | put l => induction l with
  | nil => rfl
  | cons a l ih => simp only [Un.ex, List.map_cons, coutU, Un.cout, List.length_cons] at *; omega
 | drop n => induction n with
  | zero => rfl
  | succ n ih => simp only [Un.ex, List.replicate_succ, coutU, Un.cout] at *; omega
theorem cinU_ex : ∀ us : List Un, cinU (exU us) = (us.map Un.cin).sum
 | [] => rfl
 | u :: us => by rw [exU_cons, cinU_append, cinU_un, cinU_ex us]; simp
theorem coutU_ex : ∀ us : List Un, coutU (exU us) = (us.map Un.cout).sum
 | [] => rfl
 | u :: us => by rw [exU_cons, coutU_append, coutU_un, coutU_ex us]; simp
theorem bb_none : (⟨#[]⟩ : ByteArray) ++ (⟨#[]⟩ : ByteArray) = ⟨#[]⟩ := by
 apply ByteArray.ext
 simp [ByteArray.data_append]
theorem runs_kind {t c : Sp} {r : List Sp} (h : runs t r = t :: r) (hk : c.f0 = t.f0) : runs c r = c :: r := by
 rcases r with _ | ⟨u, r⟩
 ·rfl
 ·rw [runs] at h ⊢
  by_cases hu : u.f0 = t.f0
  ·rw [if_pos hu] at h
   have := congrArg List.length h
   have h2 := runs_length r (joinS t u)
   simp at this
   omega
  ·rw [if_neg hu] at h
   rw [if_neg (by rw [hk]; exact hu)]
   injection h with _ h
   rw [h]
theorem norm_cons (s : Sp) (l : List Sp) : norm (s :: l) = if emptyS s = true then norm l else match norm l with
  | [] => [s]
  | t :: r => if t.f0 = s.f0 then joinS s t :: r else s :: t :: r := by
 cases he : emptyS s with
 | true => simp [norm, he]
 | false =>
  have e : norm (s :: l) = runs s (norm l) := by
   have h1 : norm (s :: l) = mergeS ([s] ++ l.filter (fun s => !emptyS s)) := by simp [norm, he]
   rw [h1, ← merge_right]
   rfl
  rw [e, if_neg (by simp)]
  generalize hn : norm l = m
  rcases m with _ | ⟨t, r⟩
  ·rfl
  ·have hm : runs t r = t :: r := by
    have : mergeS (t :: r) = t :: r := by
     rw [← hn]
     unfold norm
     generalize l.filter (fun s => !emptyS s) = f
     rcases f with _ | ⟨a, f⟩
     ·rfl
     ·exact merge_idem f a
    exact this
   simp only
   rw [runs]
   by_cases hk : t.f0 = s.f0
   ·rw [if_pos hk, if_pos hk]
    exact runs_kind hm hk.symm
   ·rw [if_neg hk, if_neg hk, hm]
theorem empty_keep (n : Nat) : emptyS (Un.keep n).sp = decide (n = 0) := by
 unfold emptyS Un.sp
 have : (⟨#[]⟩ : ByteArray).toList = [] := by rw [ByteArray.toList_eq]
 simp [this]
theorem empty_drop (n : Nat) : emptyS (Un.drop n).sp = decide (n = 0) := by
 unfold emptyS Un.sp
 have : (⟨#[]⟩ : ByteArray).toList = [] := by rw [ByteArray.toList_eq]
 simp [this]
theorem empty_put (l : List Int) : emptyS (Un.put l).sp = decide (l = []) := by
 unfold emptyS Un.sp
 have := encT_none l
 by_cases h : l = [] <;> simp [h, this]
 rw [ByteArray.toList_eq, encT_nil]
theorem join_keep (n m : Nat) (h : n + m ≤ 4611686018427387904) : joinS (Un.keep n).sp (Un.keep m).sp = (Un.keep (n + m)).sp := by
 unfold joinS Un.sp
 simp only [bb_none]
 rw [w64 (by omega) (by omega)]
 congr 1
theorem join_drop (n m : Nat) (h : n + m ≤ 4611686018427387904) : joinS (Un.drop n).sp (Un.drop m).sp = (Un.drop (n + m)).sp := by
 unfold joinS Un.sp
 simp only [bb_none]
 rw [w64 (by omega) (by omega)]
 congr 1
theorem join_put (a b : List Int) : joinS (Un.put a).sp (Un.put b).sp = (Un.put (a ++ b)).sp := by
 unfold joinS Un.sp
 simp only
 rw [encT_append]
 have : wrap64 (0 + 0) = 0 := by unfold wrap64; rfl
 rw [this]
theorem norm_ex : ∀ us : List Un, (us.map Un.cin).sum ≤ 4611686018427387904 → norm (us.map Un.sp) = (canon (exU us)).map Un.sp
 | [], _ => rfl
 | u :: us, h => by
  simp only [List.map_cons, List.sum_cons] at h
  have ih := norm_ex us (by omega)
  have hc : ((canon (exU us)).map Un.cin).sum = (us.map Un.cin).sum := by rw [← cinU_ex, ex_canon, cinU_ex]
  rw [List.map_cons, norm_cons, ih, exU_cons, canon_un]
  generalize canon (exU us) = c at hc
  cases u with
  | keep n =>
   rw [empty_keep]
   cases n with
   | zero => rfl
   | succ n =>
    rw [if_neg (by simp)]
    rcases c with _ | ⟨v, r⟩
    ·rfl
    ·cases v with
     | keep m =>
      simp only [List.map_cons, List.sum_cons, Un.cin] at hc h
      have := join_keep (n + 1) m (by omega)
      simp only [consUn, List.map_cons]
      rw [if_pos (by rfl), this]
     | put m => simp only [consUn, List.map_cons]; rw [if_neg (by simp [Un.sp])]
     | drop m => simp only [consUn, List.map_cons]; rw [if_neg (by simp [Un.sp])]
  | drop n =>
   rw [empty_drop]
   cases n with
   | zero => rfl
   | succ n =>
    rw [if_neg (by simp)]
    rcases c with _ | ⟨v, r⟩
    ·rfl
    ·cases v with
     | drop m =>
      simp only [List.map_cons, List.sum_cons, Un.cin] at hc h
      have := join_drop (n + 1) m (by omega)
      simp only [consUn, List.map_cons]
      rw [if_pos (by rfl), this]
     | put m => simp only [consUn, List.map_cons]; rw [if_neg (by simp [Un.sp])]
     | keep m => simp only [consUn, List.map_cons]; rw [if_neg (by simp [Un.sp])]
  | put l =>
   rw [empty_put]
   cases l with
   | nil => rfl
   | cons a l =>
    rw [if_neg (by simp)]
    rcases c with _ | ⟨v, r⟩
    ·rfl
    ·cases v with
     | put m =>
      have := join_put (a :: l) m
      simp only [consUn, List.map_cons]
      rw [if_pos (by rfl), this]
     | keep m => simp only [consUn, List.map_cons]; rw [if_neg (by simp [Un.sp])]
     | drop m => simp only [consUn, List.map_cons]; rw [if_neg (by simp [Un.sp])]
end Go.Proofs.YthhgobiaecehbaaDoor.F
end
section
namespace Go.Proofs.YthhgobiaecehbaaDoor.F
open Go.RowKit Go.Proofs.YthhgobiaecehbaaDoorW.PrintWords Go.Proofs.YthhgobiaecehbaaDoorW.PrintLast Go.Proofs.YthhgobiaecehbaaDoorW.PrintMore
set_option linter.unusedVariables false
set_option linter.unusedSimpArgs false
def fullU : Un → Bool
 | .keep n => n != 0
 | .put l => l != []
 | .drop n => n != 0
theorem canon_ex {u : Un} (h : fullU u = true) : canon u.ex = [u] := by
 have := canon_un u []
 rw [List.append_nil] at this
 rw [this]
 cases u with
 | keep n => cases n with
  | zero => simp [fullU] at h
  | succ n => rfl
 | put l => cases l with
  | nil => simp [fullU] at h
  | cons a l => rfl
 | drop n => cases n with
  | zero => simp [fullU] at h
  | succ n => rfl
theorem canon_out : ∀ y : List U, ((canon y).map Un.cout).sum = coutU y := fun y => by rw [← coutU_ex, ex_canon]
theorem canon_in : ∀ y : List U, ((canon y).map Un.cin).sum = cinU y := fun y => by rw [← cinU_ex, ex_canon]
theorem consU_length (t : U) (c : List Un) : (consU t c).length ≤ c.length + 1 ∧ c.length ≤ (consU t c).length := by
 rcases c with _ | ⟨v, r⟩
 ·cases t <;> simp [consU]
 ·cases t <;> cases v <;> simp [consU] <;> omega
theorem canon_length : ∀ y : List U, (canon y).length ≤ y.length
 | [] => Nat.le_refl _
 | t :: y => by
  rw [canon_cons]
  have := (consU_length t (canon y)).1
  have := canon_length y
  simp only [List.length_cons]
  omega
theorem length_two : ∀ y : List U, y.length ≤ cinU y + coutU y
 | [] => Nat.zero_le _
 | t :: y => by
  have := length_two y
  cases t <;> simp only [cinU, coutU, List.length_cons] <;> omega
def RunesU (y : List U) : Prop := ∀ r, U.p r ∈ y → isRune r
theorem RunesU.append {a b : List U} (ha : RunesU a) (hb : RunesU b) : RunesU (a ++ b) := fun r h => (List.mem_append.1 h).elim (ha r) (hb r)
theorem RunesU.tail {t : U} {y : List U} (h : RunesU (t :: y)) : RunesU y := fun r hr => h r (by simp [hr])
theorem RunesU.put {l : List Int} (h : Runes l) : RunesU (l.map .p) := by
 intro r hr
 obtain ⟨x, hx, e⟩ := List.mem_map.1 hr
 injection e with e
 rw [← e]
 exact h x hx
theorem runesU_ex : ∀ us : List Un, (∀ u ∈ us, u.ok) → RunesU (exU us)
 | [], _ => fun r h => by cases h
 | u :: us, h => by
  rw [exU_cons]
  refine RunesU.append ?_ (runesU_ex us (fun v hv => h v (by simp [hv])))
  cases u with
  | keep n => intro r hr; have := List.eq_of_mem_replicate hr; cases this
  | put l => exact RunesU.put (h (.put l) (by simp))
  | drop n => intro r hr; have := List.eq_of_mem_replicate hr; cases this
theorem ok_canon : ∀ y : List U, RunesU y → ∀ u ∈ canon y, u.ok
 | [], _, u, hu => by cases hu
 | t :: y, h, u, hu => by
  have ih := ok_canon y h.tail
  rw [canon_cons] at hu
  generalize canon y = c at ih hu
  cases t with
  | k =>
   rcases c with _ | ⟨v, r⟩
   ·simp [consU] at hu; subst hu; trivial
   ·cases v <;> simp [consU] at hu <;> rcases hu with rfl | hu <;> first | trivial | exact ih _ (by simp [hu]) | (rcases hu with rfl | hu <;> exact ih _ (by simp [*]))
  | d =>
   rcases c with _ | ⟨v, r⟩
   ·simp [consU] at hu; subst hu; trivial
   ·cases v <;> simp [consU] at hu <;> rcases hu with rfl | hu <;> first | trivial | exact ih _ (by simp [hu]) | (rcases hu with rfl | hu <;> exact ih _ (by simp [*]))
  | p a =>
   have ha : isRune a := h a (by simp)
   have h1 : Runes [a] := by intro x hx; simp at hx; subst hx; exact ha
   rcases c with _ | ⟨v, r⟩
   ·simp [consU] at hu; subst hu; exact h1
   ·cases v with
    | put m =>
     simp [consU] at hu
     rcases hu with rfl | hu
     ·exact Runes.append h1 (ih (.put m) (by simp))
     ·exact ih _ (by simp [hu])
    | keep n =>
     simp [consU] at hu
     rcases hu with rfl | rfl | hu
     ·exact h1
     ·trivial
     ·exact ih _ (by simp [hu])
    | drop n =>
     simp [consU] at hu
     rcases hu with rfl | rfl | hu
     ·exact h1
     ·trivial
     ·exact ih _ (by simp [hu])
theorem canon_ok {y : List U} (h : RunesU y) (h1 : cinU y ≤ 1048576) (h2 : coutU y ≤ 1048576) : Ok (canon y) := by
 have := canon_length y
 have := length_two y
 exact ⟨ok_canon y h, by omega, by rw [canon_in]; exact h1, by rw [canon_out]; omega⟩
end Go.Proofs.YthhgobiaecehbaaDoor.F
end
section
namespace Go.Proofs.YthhgobiaecehbaaDoor.F
open Go.RowKit Go.Proofs.YthhgobiaecehbaaDoorW.PrintWords Go.Proofs.YthhgobiaecehbaaDoorW.PrintLast Go.Proofs.YthhgobiaecehbaaDoorW.PrintMore
set_option linter.unusedVariables false
set_option linter.unusedSimpArgs false
def Un.fewB : Un → Prop
 | .keep n => n ≤ 1048576
 | .put l => l.length ≤ 6 ∧ ∀ r ∈ l, r ∈ alpha
 | .drop n => n ≤ 1048576
structure MadeB (us : List Un) (n : Nat) : Prop where
 few : ∀ u ∈ us, u.fewB
 len : us.length ≤ 13
 cin : (us.map Un.cin).sum = n
theorem fitB_loop (l : List Sp) (hl : l.length ≤ maxLen) (hw : ∀ x ∈ l, (Lit.int .i64 x.f0).wf = true ∧ (Lit.int .i64 x.f1).wf = true ∧ x.f2.size ≤ maxLen) :
  ∀ (r pre : List Sp) (m : Nat) (acc : List Sp), l = pre ++ r → acc.length = pre.length → pre.length ≤ 12 → m ≤ 1048576 →
   ∃ us : List Un, Ev (fun k => epitomeref04_Fit.l0 k l (m : Int) acc (pre.length : Int)) (acc ++ us.map Un.sp) ∧ (∀ u ∈ us, u.fewB) ∧ us.length + pre.length ≤ 13 ∧ (us.map Un.cin).sum = m
 | [], pre, m, acc, h, ha, hp, hm => by
  refine ⟨if m = 0 then [] else [Un.keep m], ?_, ?_, ?_, ?_⟩
  ·refine Ev.step (f := fun k => epitomeref04_Fit.j1 k l (m : Int) acc (pre.length : Int) false) (fun k => ?_) (fit04_end l m acc _ (by omega))
   rw [epitomeref04_Fit.l0, if_neg (by subst h; simp)]
  ·intro u hu
   by_cases h0 : m = 0
   ·rw [if_pos h0] at hu; simp at hu
   ·rw [if_neg h0] at hu; simp at hu; subst hu; exact hm
  ·split <;> simp <;> omega
  ·split <;> simp [Un.cin] <;> omega
 | x :: r, pre, m, acc, h, ha, hp, hm => by
  have hlt : (pre.length : Int) < (l.length : Int) := by subst h; simp <;> omega
  by_cases h12 : pre.length = 12
  ·refine ⟨if m = 0 then [] else [Un.keep m], ?_, ?_, ?_, ?_⟩
   ·refine Ev.step (f := fun k => epitomeref04_Fit.j1 k l (m : Int) acc (pre.length : Int) false) (fun k => ?_) (fit04_end l m acc _ (by omega))
    rw [epitomeref04_Fit.l0, if_pos hlt, show decide ((pre.length : Int) < 12) = false by simp; omega]
   ·intro u hu
    by_cases h0 : m = 0
    ·rw [if_pos h0] at hu; simp at hu
    ·rw [if_neg h0] at hu; simp at hu; subst hu; exact hm
   ·split <;> simp <;> omega
   ·split <;> simp [Un.cin] <;> omega
  ·have hx := hw x (by rw [h]; simp)
   have b0 := wf_bounds hx.1
   have b1 := wf_bounds hx.2.1
   have hrd : rd_T41 l (pre.length : Int) = x := by rw [h]; exact rdS_at rfl
   have hk := kind_range x.f0 b0.1 b0.2
   have hn := many_range x.f1 b1.1 b1.2
   have w1 : wrap64 ((pre.length : Int) + 1) = ((pre ++ [x]).length : Int) := by rw [w64 (by omega) (by omega)]; simp
   generalize hkk : wrap64 (1 + Int.tmod (wrap64 (Int.tmod x.f0 3 + 3)) 3) = kk at hk
   generalize hnn : Int.tmod (wrap64 (Int.tmod x.f1 7 + 7)) 7 = nn at hn
   have two : ∀ (m2 : Nat) (u : Un), m2 ≤ 1048576 → u.fewB → u.cin + m2 = m →
     ∃ us : List Un, Ev (fun k => epitomeref04_Fit.l0 k l (m2 : Int) (acc ++ [u.sp]) (wrap64 ((pre.length : Int) + 1))) (acc ++ us.map Un.sp) ∧ (∀ u ∈ us, u.fewB) ∧ us.length + pre.length ≤ 13 ∧ (us.map Un.cin).sum = m := by
    intro m2 u hm2 hu hc
    obtain ⟨us, e1, e2, e3, e4⟩ := fitB_loop l hl hw r (pre ++ [x]) m2 (acc ++ [u.sp]) (by simp [h]) (by simp [ha]) (by simp; omega) hm2
    refine ⟨u :: us, ?_, ?_, ?_, ?_⟩
    ·rw [w1]
     simpa using e1
    ·intro v hv
     rcases List.mem_cons.1 hv with rfl | hv
     ·exact hu
     ·exact e2 v hv
    ·simp at e3 ⊢; omega
    ·simp; omega
   have go : ∀ {g : Nat → Option (List Sp)} (w : List Sp), Ev g w → (∀ k, epitomeref04_Fit.j1 (k + 1) l (m : Int) acc (pre.length : Int) true = g k) → Ev (fun k => epitomeref04_Fit.l0 k l (m : Int) acc (pre.length : Int)) w := by
    intro g w hg hj
    refine Ev.step (f := fun k => epitomeref04_Fit.j1 k l (m : Int) acc (pre.length : Int) true) (fun k => ?_) (Ev.step hj hg)
    rw [epitomeref04_Fit.l0, if_pos hlt, show decide ((pre.length : Int) < 12) = true by simp; omega]
   by_cases h2 : kk = 2
   ·have hmn := mn_le (x.f2.size : Int) 6
    obtain ⟨us, e1, e2⟩ := two m (Un.put (fitRunes (x.f2.extract 0 (mn (x.f2.size : Int) 6).toNat))) hm ⟨by rw [fitRunes_length]; have := extract_size x.f2 (mn (x.f2.size : Int) 6).toNat; omega, fitRunes_mem _⟩ (by simp [Un.cin])
    refine ⟨us, go _ ?_ (fun k => by rw [epitomeref04_Fit.j1, if_pos rfl, if_pos (by omega), if_pos hlt, hrd, hkk, if_pos h2, if_pos (by omega), if_pos (by omega)]), e2⟩
    refine Ev.bind (fit01_is _ (by have := extract_size x.f2 (mn (x.f2.size : Int) 6).toNat; omega)) (ev_if_pos (by omega) ?_)
    rw [h2]
    exact e1
   ·have hmn := mn_le nn m
    have hmn0 : 0 ≤ mn nn m := by omega
    obtain ⟨v, hv⟩ := Int.eq_ofNat_of_zero_le hmn0
    have hw2 : wrap64 ((m : Int) - mn nn m) = ((m - v : Nat) : Int) := by rw [w64 (by omega) (by omega)]; omega
    obtain ⟨us, e1, e2⟩ := two (m - v) (if kk = 1 then Un.keep v else Un.drop v) (by omega) (by split <;> (show v ≤ 1048576; omega)) (by split <;> (show v + (m - v) = m; omega))
    refine ⟨us, go _ ?_ (fun k => by rw [epitomeref04_Fit.j1, if_pos rfl, if_pos (by omega), if_pos hlt, hrd, hkk, if_neg h2, if_pos (by omega), hnn, hw2, hv]), e2⟩
    have hsp : (⟨kk, (v : Int), ⟨#[]⟩⟩ : Sp) = (if kk = 1 then Un.keep v else Un.drop v).sp := by
     rcases hk with rfl | rfl | rfl
     ·rfl
     ·exact absurd rfl h2
     ·rfl
    rw [hsp]
    exact e1
theorem fitB_is (l : List Sp) (hl : l.length ≤ maxLen) (hw : ∀ x ∈ l, (Lit.int .i64 x.f0).wf = true ∧ (Lit.int .i64 x.f1).wf = true ∧ x.f2.size ≤ maxLen) (n : Nat) (hn : n ≤ 1048576) :
  ∃ us, Ev (fun k => epitomeref04_Fit.f k l (n : Int)) (us.map Un.sp) ∧ MadeB us n := by
 obtain ⟨us, e1, e2, e3, e4⟩ := fitB_loop l hl hw l [] n [] rfl rfl (by simp) hn
 refine ⟨us, ?_, e2, by simpa using e3, e4⟩
 unfold epitomeref04_Fit.f
 simpa using e1
theorem cout_fewB : ∀ us : List Un, (∀ u ∈ us, u.fewB) → (us.map Un.cout).sum ≤ (us.map Un.cin).sum + 6 * us.length
 | [], _ => Nat.zero_le _
 | u :: us, h => by
  have h2 := cout_fewB us (fun v hv => h v (by simp [hv]))
  have h1 : u.cout ≤ u.cin + 6 := by
   have := h u (by simp)
   cases u with
   | keep n => show n ≤ n + 6; omega
   | put l => exact Nat.le_trans this.1 (by show 6 ≤ 0 + 6; omega)
   | drop n => exact Nat.zero_le _
  simp only [List.map_cons, List.sum_cons, List.length_cons]
  omega
structure FitB (us : List Un) (n : Nat) : Prop where
 ok : Ok us
 len : us.length ≤ 13
 cin : (us.map Un.cin).sum = n
 cinU : cinU (exU us) = n
 cout : (us.map Un.cout).sum ≤ n + 78
 coutU : coutU (exU us) = (us.map Un.cout).sum
 runes : RunesU (exU us)
theorem madeB_fit {us : List Un} {n : Nat} (h : MadeB us n) (hn : n ≤ 1048576) : FitB us n := by
 have h1 := h.len
 have h2 := cout_fewB us h.few
 have h3 := h.cin
 have ok : Ok us := ⟨fun u hu => by
  have := h.few u hu
  cases u with
  | put l => exact fun r hr => alpha_rune r (this.2 r hr)
  | keep n => trivial
  | drop n => trivial, by omega, by omega, by omega⟩
 exact ⟨ok, h1, h3, by rw [cinU_ex]; exact h3, by omega, coutU_ex us, runesU_ex us ok.ok⟩
theorem fitB (l : List Sp) (hl : l.length ≤ maxLen) (hw : ∀ x ∈ l, (Lit.int .i64 x.f0).wf = true ∧ (Lit.int .i64 x.f1).wf = true ∧ x.f2.size ≤ maxLen) (n : Nat) (hn : n ≤ 1048576) :
  ∃ us, Ev (fun k => epitomeref04_Fit.f k l (n : Int)) (us.map Un.sp) ∧ FitB us n := by
 obtain ⟨us, e, h⟩ := fitB_is l hl hw n hn
 exact ⟨us, e, madeB_fit h hn⟩
end Go.Proofs.YthhgobiaecehbaaDoor.F
end
section
namespace Go.Proofs.YthhgobiaecehbaaDoor.F
open Go.RowKit Go.Proofs.YthhgobiaecehbaaDoorW.PrintWords Go.Proofs.YthhgobiaecehbaaDoorW.PrintLast Go.Proofs.YthhgobiaecehbaaDoorW.PrintMore
set_option linter.unusedVariables false
set_option linter.unusedSimpArgs false
def sizeD (r : Int) : Int := if r < 0 ∨ r > 1114111 ∨ (55296 ≤ r ∧ r ≤ 57343) then 0 else if r < 128 then 1 else if r < 2048 then 2 else if r < 65536 then 3 else 4
theorem sizeAny_is (r : Int) : Ev (fun k => epitomeref01_size.f k r) (sizeD r) := by
 have hj : ∀ b, (b = true ↔ (r < 0 ∨ r > 1114111 ∨ (55296 ≤ r ∧ r ≤ 57343))) → Ev (fun k => epitomeref01_size.j0 k r b) (sizeD r) := by
  intro b hb
  refine Ev.step (f := fun _ => some (sizeD r)) (fun k => ?_) (Ev.now _)
  rw [epitomeref01_size.j0]
  unfold sizeD
  cases b
  ·have h : ¬ (r < 0 ∨ r > 1114111 ∨ (55296 ≤ r ∧ r ≤ 57343)) := fun e => by have := hb.2 e; cases this
   rw [if_neg (by simp), if_neg h]
   split
   ·rfl
   ·split
    ·rfl
    ·split <;> rfl
  ·have h := hb.1 rfl
   rw [if_pos rfl, if_pos h]
 unfold epitomeref01_size.f
 by_cases h1 : r < 0
 ·exact ev_if_pos h1 (hj true (by simp [h1]))
 ·refine ev_if_neg h1 ?_
  by_cases h2 : r > 1114111
  ·exact ev_if_pos h2 (hj true (by simp [h2]))
  ·refine ev_if_neg h2 ?_
   by_cases h3 : r ≥ 55296
   ·refine ev_if_pos h3 (hj _ ?_)
    simp
    omega
   ·refine ev_if_neg h3 (hj false ?_)
    simp
    omega
def bN (s : ByteArray) (i : Nat) : Nat := (s.data.toList.getD i 0).toNat
theorem bN_lt (s : ByteArray) (i : Nat) : bN s i < 256 := by unfold bN; exact UInt8.toNat_lt _
theorem bt_bN (s : ByteArray) (i : Nat) : bt s (i : Int) = (bN s i : Int) := by
 rw [← rd_bytesOf]
 unfold rd bytesOf bN
 rw [Int.toNat_natCast, List.getD_eq_getElem?_getD, List.getD_eq_getElem?_getD, List.getElem?_map]
 cases s.data.toList[i]? <;> simp
theorem decode_bN (s : ByteArray) : Lib.decodeL s.data.toList = Lib.decodeN s.size (bN s 0) (bN s 1) (bN s 2) (bN s 3) := by
 rw [Lib.decodeL_N, data_length]
 rfl
def firstD (s : ByteArray) : Int × Int := if s.size = 0 then (0, 0) else if Lib.decodeL s.data.toList = (65533, 1) then (0, 0) else (((Lib.decodeL s.data.toList).1 : Nat), ((Lib.decodeL s.data.toList).2 : Nat))
theorem first_out (s : ByteArray) (m i : Nat) (r : Int) (hi : i ≤ m) (hs : i < s.size) (hm : m ≤ 10) (hb : bN s i / 64 ≠ 2) : Ev (fun k => epitomeref01_first.l0 k s (m : Int) r (i : Int)) (0, 0) := by
 have hl := bN_lt s i
 refine Ev.step (f := fun _ => some (0, 0)) (fun k => ?_) (Ev.now _)
 rw [epitomeref01_first.l0, if_pos (by omega), if_pos (by omega), if_pos (by omega), bt_bN, w64 (by omega) (by omega)]
 by_cases h : (bN s i : Int) < 128
 ·rw [if_pos h]
 ·rw [if_neg h, if_pos (by omega)]
theorem first_in (s : ByteArray) (m i : Nat) (r : Nat) (v : Int × Int) (hi : i ≤ m) (hs : i < s.size) (hm : m ≤ 10) (hr : r ≤ 1000000) (hb : bN s i / 64 = 2) (h : Ev (fun k => epitomeref01_first.l0 k s (m : Int) ((r * 64 + bN s i % 64 : Nat) : Int) ((i + 1 : Nat) : Int)) v) :
  Ev (fun k => epitomeref01_first.l0 k s (m : Int) (r : Int) (i : Int)) v := by
 have hl := bN_lt s i
 refine Ev.step (fun k => ?_) h
 have e : wrap64 (wrap64 (wrap64 ((r : Int) * 64) + (bN s i : Int)) - 128) = ((r * 64 + bN s i % 64 : Nat) : Int) := by
  rw [w64 (x := (r : Int) * 64) (by omega) (by omega), w64 (x := (r : Int) * 64 + _) (by omega) (by omega), w64 (by omega) (by omega)]
  omega
 rw [epitomeref01_first.l0, if_pos (by omega), if_pos (by omega), if_pos (by omega), bt_bN, w64 (x := (bN s i : Int)) (by omega) (by omega), if_neg (by omega), if_neg (by omega), e, w64_succ _ (by omega)]
theorem first_end (s : ByteArray) (m : Nat) (r : Int) (hm : m ≤ 10) : Ev (fun k => epitomeref01_first.l0 k s (m : Int) r ((m + 1 : Nat) : Int)) (if sizeD r = ((m + 1 : Nat) : Int) then (r, ((m + 1 : Nat) : Int)) else (0, 0)) := by
 refine Ev.step (f := fun k => _) (fun k => by rw [epitomeref01_first.l0, if_neg (by omega), w64_succ _ (by omega)]) ?_
 refine Ev.bind (sizeAny_is r) ?_
 by_cases h : sizeD r = ((m + 1 : Nat) : Int)
 ·simp only [if_pos h]; exact Ev.now _
 ·simp only [if_neg h]; exact Ev.now _
theorem first_j3 (s : ByteArray) (m r : Nat) (hm : m ≤ 10) (v : Int × Int) (h1 : s.size < m + 1 → v = (0, 0)) (h2 : m + 1 ≤ s.size → Ev (fun k => epitomeref01_first.l0 k s (m : Int) (r : Int) 1) v) : Ev (fun k => epitomeref01_first.j3 k s (m : Int) (r : Int)) v := by
 by_cases h : s.size < m + 1
 ·refine Ev.step (f := fun _ => some v) (fun k => ?_) (Ev.now _)
  rw [epitomeref01_first.j3, w64_succ _ (by omega), if_pos (by omega), h1 h]
 ·refine Ev.step (fun k => ?_) (h2 (by omega))
  rw [epitomeref01_first.j3, w64_succ _ (by omega), if_neg (by omega)]
theorem first_is (s : ByteArray) : Ev (fun k => epitomeref01_first.f k s) (firstD s) := by
 unfold epitomeref01_first.f firstD
 by_cases h0 : s.size = 0
 ·rw [if_pos h0]
  exact ev_if_pos (by omega) (Ev.now _)
 rw [if_neg h0]
 refine ev_if_neg (by omega) (ev_if_pos (by omega) ?_)
 have b0 := bN_lt s 0
 have e0 : wrap64 (bt s 0) = (bN s 0 : Int) := by
  have := bt_bN s 0
  rw [show ((0 : Nat) : Int) = 0 from rfl] at this
  rw [this, w64 (by omega) (by omega)]
 rw [e0, decode_bN]
 generalize hd : Lib.decodeN s.size (bN s 0) (bN s 1) (bN s 2) (bN s 3) = d
 generalize hv : (if d = (65533, 1) then ((0 : Int), (0 : Int)) else ((d.1 : Int), (d.2 : Int))) = v
 have err : d = (65533, 1) → v = (0, 0) := fun e => by rw [← hv, if_pos e]
 have good : ∀ a b : Nat, d = (a, b) → b ≠ 1 ∨ a < 128 → v = ((a : Int), (b : Int)) := fun a b e hn => by
  rw [← hv, if_neg, e]
  rw [e]
  rintro h
  injection h with h1 h2
  omega
 unfold Lib.decodeN at hd
 -- the four ways
 have j2f : bN s 0 < 192 → Ev (fun k => epitomeref01_first.j2 k s (bN s 0 : Int) 0 (bN s 0 : Int) false) v := by
  intro h
  by_cases h1 : bN s 0 < 128
  ·rw [if_pos h1] at hd
   refine Ev.step (f := fun k => epitomeref01_first.j3 k s 0 (bN s 0 : Int)) (fun k => ?_) ?_
   ·rw [epitomeref01_first.j2, if_neg (by simp), if_neg (by omega)]
   ·refine first_j3 s 0 _ (by omega) v (by omega) (fun _ => ?_)
    have := first_end s 0 (bN s 0 : Int) (by omega)
    rw [if_pos (by unfold sizeD; rw [if_neg (by omega), if_pos (by omega)]; rfl)] at this
    rw [good _ _ hd.symm (.inr h1)]
    exact this
  ·rw [if_neg h1, if_neg (by omega), if_neg (by omega), if_neg (by omega)] at hd
   refine Ev.step (f := fun _ => some (0, 0)) (fun k => ?_) (by rw [err hd.symm]; exact Ev.now _)
   rw [epitomeref01_first.j2, if_neg (by simp), if_pos (by omega)]
 have j2t : 192 ≤ bN s 0 → bN s 0 < 224 → Ev (fun k => epitomeref01_first.j2 k s (bN s 0 : Int) 0 (bN s 0 : Int) true) v := by
  intro h h1
  rw [if_neg (by omega)] at hd
  refine Ev.step (f := fun k => epitomeref01_first.j3 k s 1 ((bN s 0 - 192 : Nat) : Int)) (fun k => ?_) ?_
  ·rw [epitomeref01_first.j2, if_pos rfl, w64 (by omega) (by omega), Int.ofNat_sub h]
   rfl
  ·refine first_j3 s 1 _ (by omega) v (fun hs => ?_) (fun hs => ?_)
   ·rw [if_neg (by omega), if_neg (by omega), if_neg (by omega)] at hd
    exact err hd.symm
   ·by_cases c1 : bN s 1 / 64 = 2
    ·rw [if_pos ⟨by omega, by omega, c1⟩] at hd
     refine first_in s 1 1 _ v (by omega) (by omega) (by omega) (by omega) c1 ?_
     have := first_end s 1 (((bN s 0 - 192) * 64 + bN s 1 % 64 : Nat) : Int) (by omega)
     have e : bN s 0 % 32 * 64 + bN s 1 % 64 = (bN s 0 - 192) * 64 + bN s 1 % 64 := by omega
     rw [e] at hd
     generalize (bN s 0 - 192) * 64 + bN s 1 % 64 = r at *
     by_cases c2 : r ≥ 128
     ·rw [if_pos c2] at hd
      rw [if_pos (by unfold sizeD; rw [if_neg (by omega), if_neg (by omega), if_pos (by omega)]; rfl)] at this
      rw [good _ _ hd.symm (.inl (by omega))]
      exact this
     ·rw [if_neg c2] at hd
      rw [if_neg (by unfold sizeD; rw [if_neg (by omega), if_pos (by omega)]; decide)] at this
      rw [err hd.symm]
      exact this
    ·rw [if_neg (fun e => c1 e.2.2), if_neg (by omega), if_neg (by omega)] at hd
     rw [err hd.symm]
     exact first_out s 1 1 _ (by omega) (by omega) (by omega) c1
 have j1t : 224 ≤ bN s 0 → bN s 0 < 240 → Ev (fun k => epitomeref01_first.j1 k s (bN s 0 : Int) 0 (bN s 0 : Int) true) v := by
  intro h h1
  rw [if_neg (by omega), if_neg (by omega)] at hd
  refine Ev.step (f := fun k => epitomeref01_first.j3 k s 2 ((bN s 0 - 224 : Nat) : Int)) (fun k => ?_) ?_
  ·rw [epitomeref01_first.j1, if_pos rfl, w64 (by omega) (by omega), Int.ofNat_sub h]
   rfl
  ·refine first_j3 s 2 _ (by omega) v (fun hs => ?_) (fun hs => ?_)
   ·rw [if_neg (by omega), if_neg (by omega)] at hd
    exact err hd.symm
   ·by_cases c1 : bN s 1 / 64 = 2
    ·refine first_in s 2 1 _ v (by omega) (by omega) (by omega) (by omega) c1 ?_
     by_cases c2 : bN s 2 / 64 = 2
     ·rw [if_pos ⟨by omega, ⟨by omega, c1⟩, by omega, c2⟩] at hd
      refine first_in s 2 2 _ v (by omega) (by omega) (by omega) (by omega) c2 ?_
      have := first_end s 2 ((((bN s 0 - 224) * 64 + bN s 1 % 64) * 64 + bN s 2 % 64 : Nat) : Int) (by omega)
      have e : bN s 0 % 16 * 4096 + bN s 1 % 64 * 64 + bN s 2 % 64 = ((bN s 0 - 224) * 64 + bN s 1 % 64) * 64 + bN s 2 % 64 := by omega
      rw [e] at hd
      generalize ((bN s 0 - 224) * 64 + bN s 1 % 64) * 64 + bN s 2 % 64 = r at *
      have hr : r < 65536 := by omega
      by_cases c3 : r ≥ 2048 ∧ (r < 55296 ∨ (57344 ≤ r ∧ r ≤ 1114111))
      ·rw [if_pos c3] at hd
       rw [if_pos (by unfold sizeD; rw [if_neg (by omega), if_neg (by omega), if_neg (by omega), if_pos (by omega)]; rfl)] at this
       rw [good _ _ hd.symm (.inl (by omega))]
       exact this
      ·rw [if_neg c3] at hd
       rw [if_neg (by unfold sizeD; split <;> (try split) <;> (try split) <;> (try split) <;> omega)] at this
       rw [err hd.symm]
       exact this
     ·rw [if_neg (fun e => c2 e.2.2.2), if_neg (by omega)] at hd
      rw [err hd.symm]
      exact first_out s 2 2 _ (by omega) (by omega) (by omega) c2
    ·rw [if_neg (fun e => c1 e.2.1.2), if_neg (by omega)] at hd
     rw [err hd.symm]
     exact first_out s 2 1 _ (by omega) (by omega) (by omega) c1
 have j0t : 240 ≤ bN s 0 → bN s 0 < 248 → Ev (fun k => epitomeref01_first.j0 k s (bN s 0 : Int) 0 (bN s 0 : Int) true) v := by
  intro h h1
  rw [if_neg (by omega), if_neg (by omega), if_neg (by omega)] at hd
  refine Ev.step (f := fun k => epitomeref01_first.j3 k s 3 ((bN s 0 - 240 : Nat) : Int)) (fun k => ?_) ?_
  ·rw [epitomeref01_first.j0, if_pos rfl, w64 (by omega) (by omega), Int.ofNat_sub h]
   rfl
  ·refine first_j3 s 3 _ (by omega) v (fun hs => ?_) (fun hs => ?_)
   ·rw [if_neg (by omega)] at hd
    exact err hd.symm
   ·by_cases c1 : bN s 1 / 64 = 2
    ·refine first_in s 3 1 _ v (by omega) (by omega) (by omega) (by omega) c1 ?_
     by_cases c2 : bN s 2 / 64 = 2
     ·refine first_in s 3 2 _ v (by omega) (by omega) (by omega) (by omega) c2 ?_
      by_cases c4 : bN s 3 / 64 = 2
      ·rw [if_pos ⟨by omega, ⟨by omega, c1⟩, ⟨by omega, c2⟩, by omega, c4⟩] at hd
       refine first_in s 3 3 _ v (by omega) (by omega) (by omega) (by omega) c4 ?_
       have := first_end s 3 (((((bN s 0 - 240) * 64 + bN s 1 % 64) * 64 + bN s 2 % 64) * 64 + bN s 3 % 64 : Nat) : Int) (by omega)
       have e : bN s 0 % 8 * 262144 + bN s 1 % 64 * 4096 + bN s 2 % 64 * 64 + bN s 3 % 64 = (((bN s 0 - 240) * 64 + bN s 1 % 64) * 64 + bN s 2 % 64) * 64 + bN s 3 % 64 := by omega
       rw [e] at hd
       generalize (((bN s 0 - 240) * 64 + bN s 1 % 64) * 64 + bN s 2 % 64) * 64 + bN s 3 % 64 = r at *
       by_cases c3 : r ≥ 65536 ∧ (r < 55296 ∨ (57344 ≤ r ∧ r ≤ 1114111))
       ·rw [if_pos c3] at hd
        rw [if_pos (by unfold sizeD; rw [if_neg (by omega), if_neg (by omega), if_neg (by omega), if_neg (by omega)]; rfl)] at this
        rw [good _ _ hd.symm (.inl (by omega))]
        exact this
       ·rw [if_neg c3] at hd
        rw [if_neg (by unfold sizeD; split <;> (try split) <;> (try split) <;> (try split) <;> omega)] at this
        rw [err hd.symm]
        exact this
      ·rw [if_neg (fun e => c4 e.2.2.2.2)] at hd
       rw [err hd.symm]
       exact first_out s 3 3 _ (by omega) (by omega) (by omega) c4
     ·rw [if_neg (fun e => c2 e.2.2.1.2)] at hd
      rw [err hd.symm]
      exact first_out s 3 2 _ (by omega) (by omega) (by omega) c2
    ·rw [if_neg (fun e => c1 e.2.1.2)] at hd
     rw [err hd.symm]
     exact first_out s 3 1 _ (by omega) (by omega) (by omega) c1
 have j2 : bN s 0 < 224 ∨ 248 ≤ bN s 0 → Ev (fun k => epitomeref01_first.j1 k s (bN s 0 : Int) 0 (bN s 0 : Int) false) v := by
  intro h
  by_cases h1 : 192 ≤ bN s 0
  ·refine Ev.step (f := fun k => epitomeref01_first.j2 k s (bN s 0 : Int) 0 (bN s 0 : Int) (decide ((bN s 0 : Int) < 224))) (fun k => by rw [epitomeref01_first.j1, if_neg (by simp), if_pos (by omega)]) ?_
   by_cases h2 : bN s 0 < 224
   ·rw [decide_eq_true (by omega)]
    exact j2t h1 h2
   ·rw [decide_eq_false (by omega)]
    rw [if_neg (by omega), if_neg (by omega), if_neg (by omega), if_neg (by omega)] at hd
    refine Ev.step (f := fun _ => some (0, 0)) (fun k => ?_) (by rw [err hd.symm]; exact Ev.now _)
    rw [epitomeref01_first.j2, if_neg (by simp), if_pos (by omega)]
  ·exact Ev.step (fun k => by rw [epitomeref01_first.j1, if_neg (by simp), if_neg (by omega)]) (j2f (by omega))
 have j1 : bN s 0 < 240 ∨ 248 ≤ bN s 0 → Ev (fun k => epitomeref01_first.j0 k s (bN s 0 : Int) 0 (bN s 0 : Int) false) v := by
  intro h
  by_cases h1 : 224 ≤ bN s 0
  ·refine Ev.step (f := fun k => epitomeref01_first.j1 k s (bN s 0 : Int) 0 (bN s 0 : Int) (decide ((bN s 0 : Int) < 240))) (fun k => by rw [epitomeref01_first.j0, if_neg (by simp), if_pos (by omega)]) ?_
   by_cases h2 : bN s 0 < 240
   ·rw [decide_eq_true (by omega)]
    exact j1t h1 h2
   ·rw [decide_eq_false (by omega)]
    exact j2 (by omega)
  ·exact Ev.step (fun k => by rw [epitomeref01_first.j0, if_neg (by simp), if_neg (by omega)]) (j2 (by omega))
 by_cases h1 : 240 ≤ bN s 0
 ·refine ev_if_pos (by omega) ?_
  by_cases h2 : bN s 0 < 248
  ·rw [decide_eq_true (by omega)]
   exact j0t h1 h2
  ·rw [decide_eq_false (by omega)]
   exact j1 (by omega)
 ·exact ev_if_neg (by omega) (j1 (by omega))
end Go.Proofs.YthhgobiaecehbaaDoor.F
end
section
namespace Go.Proofs.YthhgobiaecehbaaDoor.F
open Go.RowKit Go.Proofs.YthhgobiaecehbaaDoorW.PrintWords Go.Proofs.YthhgobiaecehbaaDoorW.PrintLast Go.Proofs.YthhgobiaecehbaaDoorW.PrintMore
set_option linter.unusedVariables false
set_option linter.unusedSimpArgs false
theorem u8_back (x : UInt8) {n : Nat} (h : n = x.toNat) : UInt8.ofNat n = x := by subst h; exact UInt8.ofNat_toNat
theorem decode_back (L : List UInt8) (hne : L ≠ []) (h : Lib.decodeL L ≠ (65533, 1)) : isRune ((Lib.decodeL L).1 : Int) ∧ L = (enc1 ((Lib.decodeL L).1 : Int)).map (fun n => UInt8.ofNat n.toNat) ++ L.drop (Lib.decodeL L).2 := by
 rw [Lib.decodeL_N] at h ⊢
 rcases L with _ | ⟨x0, L⟩
 ·exact absurd rfl hne
 simp only [List.getD_cons_zero, List.getD_cons_succ] at h ⊢
 have q0 := UInt8.toNat_lt x0
 generalize hd : Lib.decodeN (x0 :: L).length x0.toNat (L.getD 0 0).toNat (L.getD 1 0).toNat (L.getD 2 0).toNat = d at h ⊢
 unfold Lib.decodeN at hd
 by_cases c1 : x0.toNat < 128
 ·rw [if_pos c1] at hd
  rw [← hd]
  refine ⟨.inl ⟨by simp only; omega, by simp only; omega⟩, ?_⟩
  simp only
  rw [enc1_nat, if_pos c1, u8_back x0 rfl]
  rfl
 rw [if_neg c1] at hd
 by_cases c2 : x0.toNat / 32 = 6 ∧ (1 < (x0 :: L).length ∧ (L.getD 0 0).toNat / 64 = 2)
 ·rw [if_pos c2] at hd
  rcases L with _ | ⟨x1, L⟩
  ·simp at c2
  simp only [List.getD_cons_zero] at hd c2
  have q1 := UInt8.toNat_lt x1
  split at hd
  ·next c =>
   rw [← hd]
   generalize hm : x0.toNat % 32 * 64 + x1.toNat % 64 = m at *
   refine ⟨by unfold isRune; simp only; omega, ?_⟩
   simp only
   rw [enc1_nat, if_neg (by omega), if_pos (by omega), u8_back x0 (by omega), u8_back x1 (by omega)]
   rfl
  ·exact absurd hd.symm h
 rw [if_neg c2] at hd
 by_cases c3 : x0.toNat / 16 = 14 ∧ (1 < (x0 :: L).length ∧ (L.getD 0 0).toNat / 64 = 2) ∧ (2 < (x0 :: L).length ∧ (L.getD 1 0).toNat / 64 = 2)
 ·rw [if_pos c3] at hd
  rcases L with _ | ⟨x1, _ | ⟨x2, L⟩⟩
  ·simp at c3
  ·simp at c3
  simp only [List.getD_cons_zero, List.getD_cons_succ] at hd c3
  have q1 := UInt8.toNat_lt x1
  have q2 := UInt8.toNat_lt x2
  split at hd
  ·next c =>
   rw [← hd]
   generalize hm : x0.toNat % 16 * 4096 + x1.toNat % 64 * 64 + x2.toNat % 64 = m at *
   refine ⟨by unfold isRune; simp only; omega, ?_⟩
   simp only
   rw [enc1_nat, if_neg (by omega), if_neg (by omega), if_pos (by omega), u8_back x0 (by omega), u8_back x1 (by omega), u8_back x2 (by omega)]
   rfl
  ·exact absurd hd.symm h
 rw [if_neg c3] at hd
 by_cases c4 : x0.toNat / 8 = 30 ∧ (1 < (x0 :: L).length ∧ (L.getD 0 0).toNat / 64 = 2) ∧ (2 < (x0 :: L).length ∧ (L.getD 1 0).toNat / 64 = 2) ∧ (3 < (x0 :: L).length ∧ (L.getD 2 0).toNat / 64 = 2)
 ·rw [if_pos c4] at hd
  rcases L with _ | ⟨x1, _ | ⟨x2, _ | ⟨x3, L⟩⟩⟩
  ·simp at c4
  ·simp at c4
  ·simp at c4
  simp only [List.getD_cons_zero, List.getD_cons_succ] at hd c4
  have q1 := UInt8.toNat_lt x1
  have q2 := UInt8.toNat_lt x2
  have q3 := UInt8.toNat_lt x3
  split at hd
  ·next c =>
   rw [← hd]
   generalize hm : x0.toNat % 8 * 262144 + x1.toNat % 64 * 4096 + x2.toNat % 64 * 64 + x3.toNat % 64 = m at *
   refine ⟨by unfold isRune; simp only; omega, ?_⟩
   simp only
   rw [enc1_nat, if_neg (by omega), if_neg (by omega), if_neg (by omega), u8_back x0 (by omega), u8_back x1 (by omega), u8_back x2 (by omega), u8_back x3 (by omega)]
   rfl
  ·exact absurd hd.symm h
 rw [if_neg c4] at hd
 exact absurd hd.symm h
theorem valid_ex : ∀ (n : Nat) (L : List UInt8), L.length ≤ n → Lib.validD L = true → ∃ l, Runes l ∧ L = encL l
 | _, [], _, _ => ⟨[], Runes.nil, rfl⟩
 | 0, x :: L, h, _ => by simp at h
 | n + 1, x :: L, h, hv => by
  have hne : x :: L ≠ [] := by simp
  rw [Lib.validD_step _ hne] at hv
  have hw := Lib.decodeL_width (x :: L)
  split at hv
  ·cases hv
  ·next hc =>
   have hb := decode_back (x :: L) hne (fun e => hc (by rw [e]; exact ⟨rfl, rfl⟩))
   obtain ⟨l, hl, e⟩ := valid_ex n _ (by rw [List.length_drop]; simp only [List.length_cons] at h ⊢; omega) hv
   refine ⟨((Lib.decodeL (x :: L)).1 : Int) :: l, ?_, ?_⟩
   ·intro r hr
    rcases List.mem_cons.1 hr with rfl | hr
    ·exact hb.1
    ·exact hl r hr
   ·rw [encL_cons, ← e]
    exact hb.2
theorem valid_text (s : ByteArray) (h : Lib.validD s.data.toList = true) : ∃ l, Runes l ∧ s = encT l := by
 obtain ⟨l, hl, e⟩ := valid_ex _ _ (Nat.le_refl _) h
 refine ⟨l, hl, ?_⟩
 apply ByteArray.ext
 apply Array.ext'
 rw [e, encT_list]
theorem tail_list (s : ByteArray) (i : Nat) : (s.extract i s.size).data.toList = s.data.toList.drop i := by
 rw [ByteArray.data_extract, Array.toList_extract, List.extract_eq_take_drop]
 rw [List.take_of_length_le]
 rw [List.length_drop, data_length]
 exact Nat.le_refl _
theorem tail_size (s : ByteArray) (i : Nat) : (s.extract i s.size).size = s.size - i := by
 rw [← data_length, tail_list, List.length_drop, data_length]
def offs (l : List Int) : List Int := (List.range (l.length + 1)).map (fun i => ((encT (l.take i)).size : Int))
theorem offs_length (l : List Int) : (offs l).length = l.length + 1 := by simp [offs]
theorem offs_snoc (l : List Int) (r : Int) : offs (l ++ [r]) = offs l ++ [((encT (l ++ [r])).size : Int)] := by
 unfold offs
 rw [show (l ++ [r]).length + 1 = (l.length + 1) + 1 by simp, List.range_succ, List.map_append]
 congr 1
 ·refine List.map_congr_left (fun i hi => ?_)
  have := List.mem_range.1 hi
  rw [List.take_append_of_le_length (by omega)]
 ·rw [List.map_cons, List.map_nil, List.take_of_length_le (by simp)]
theorem offs_at (l : List Int) (i : Nat) (h : i ≤ l.length) : rd (offs l) (i : Int) = ((encT (l.take i)).size : Int) := by
 unfold rd offs
 rw [Int.toNat_natCast, List.getD_eq_getElem?_getD, List.getElem?_map, List.getElem?_range (by omega)]
 rfl
theorem encT_len_take (a b : List Int) : (encT (a ++ b)).size = (encT a).size + (encT b).size := by
 rw [encT_append, ByteArray.size_append]
theorem starts_loop (l : List Int) (hl : Runes l) (hb : l.length ≤ 1099511627776) : ∀ (r pre : List Int), l = pre ++ r →
  Ev (fun k => epitomeref01_Starts.l0 k (encT l) (offs pre) ((encT pre).size : Int)) (offs l, true)
 | [], pre, h => by
  rw [List.append_nil] at h
  subst h
  refine Ev.step (f := fun _ => some (offs l, true)) (fun k => ?_) (Ev.now _)
  rw [epitomeref01_Starts.l0, if_neg (by omega)]
 | t :: r, pre, h => by
  have hbig := big_enc hb
  have hlt := encT_lt pre t r
  rw [← h] at hlt
  have hr : isRune t := hl t (by rw [h]; simp)
  have ih := starts_loop l hl hb r (pre ++ [t]) (by simp [h])
  rw [offs_snoc] at ih
  have hsn := encT_snoc_size pre t
  have e1 := enc1_length t
  have hll : pre.length + (r.length + 1) = l.length := by rw [h]; simp
  have hd : Lib.decodeL ((encT l).extract (encT pre).size (encT l).size).data.toList = (t.toNat, (enc1 t).length) := by
   rw [tail_list, Lib.decodeL_drop, h]
   exact decode_at_enc pre t r hr
  have hf : firstD ((encT l).extract (encT pre).size (encT l).size) = (t, ((enc1 t).length : Int)) := by
   unfold firstD
   rw [tail_size, if_neg (by omega), hd, if_neg]
   ·have : ((t.toNat : Nat) : Int) = t := by unfold isRune at hr; omega
    rw [this]
   ·intro e
    injection e with e1 e2
    have ht : t = 65533 := by unfold isRune at hr; omega
    subst ht
    simp [enc1] at e2
  refine Ev.step (f := fun k => _) (fun k => by rw [epitomeref01_Starts.l0, if_pos (by omega), if_pos (by omega), if_pos (by omega), Int.toNat_natCast]) ?_
  have hF := first_is ((encT l).extract (encT pre).size (encT l).size)
  rw [hf] at hF
  refine Ev.bind hF ?_
  refine ev_if_neg (show ¬ (((enc1 t).length : Int) = 0) by omega) (ev_if_pos (by rw [offs_length]; omega) ?_)
  rw [show wrap64 (((encT pre).size : Int) + ((enc1 t).length : Int)) = ((encT (pre ++ [t])).size : Int) by rw [w64 (by omega) (by omega)]; omega]
  exact ih
theorem starts_enc (l : List Int) (hl : Runes l) (hb : l.length ≤ 1099511627776) : Ev (fun k => epitomeref01_Starts.f k (encT l)) (offs l, true) := by
 unfold epitomeref01_Starts.f
 exact starts_loop l hl hb l [] rfl
theorem starts_bad_loop (s : ByteArray) (hs : s.size ≤ 4398046511104) : ∀ (n i : Nat) (acc : List Int), s.size ≤ i + n → i ≤ s.size → acc.length ≤ i + 1 → Lib.validD (s.data.toList.drop i) = false →
  Ev (fun k => epitomeref01_Starts.l0 k s acc (i : Int)) ([], false)
 | 0, i, acc, h1, h2, h3, hv => by
  have : s.data.toList.drop i = [] := List.drop_eq_nil_of_le (by rw [data_length]; omega)
  rw [this] at hv
  cases hv
 | n + 1, i, acc, h1, h2, h3, hv => by
  by_cases hne : s.data.toList.drop i = []
  ·rw [hne] at hv
   cases hv
  have hlt : i < s.size := by
   rcases Nat.lt_or_ge i s.size with h | h
   ·exact h
   ·exact absurd (List.drop_eq_nil_of_le (by rw [data_length]; omega)) hne
  rw [Lib.validD_step _ hne] at hv
  have hw := Lib.decodeL_width (s.data.toList.drop i)
  refine Ev.step (f := fun k => _) (fun k => by rw [epitomeref01_Starts.l0, if_pos (by omega), if_pos (by omega), if_pos (by omega), Int.toNat_natCast]) ?_
  refine Ev.bind (first_is (s.extract i s.size)) ?_
  unfold firstD
  rw [tail_size, if_neg (by omega), tail_list]
  generalize hd : Lib.decodeL (s.data.toList.drop i) = d at *
  by_cases he : d = (65533, 1)
  ·rw [if_pos he]
   exact ev_if_pos rfl (Ev.now _)
  ·rw [if_neg he]
   refine ev_if_neg (show ¬ ((d.2 : Nat) : Int) = 0 by omega) (ev_if_pos (by omega) ?_)
   have hn : ¬ (d.1 = 65533 ∧ d.2 = 1) := fun e => he (Prod.ext e.1 e.2)
   rw [if_neg hn, List.drop_drop] at hv
   have hin : i + d.2 ≤ s.size := by
    rcases Nat.lt_or_ge s.size (i + d.2) with h | h
    ·exfalso
     rw [List.drop_eq_nil_of_le (by rw [data_length]; omega)] at hv
     cases hv
    ·exact h
   rw [show wrap64 ((i : Int) + (d.2 : Int)) = ((i + d.2 : Nat) : Int) by rw [w64 (by omega) (by omega)]; omega]
   exact starts_bad_loop s hs n (i + d.2) _ (by omega) hin (by simp; omega) hv
theorem starts_bad (s : ByteArray) (hs : s.size ≤ 4398046511104) (h : Lib.validD s.data.toList = false) : Ev (fun k => epitomeref01_Starts.f k s) ([], false) := by
 unfold epitomeref01_Starts.f
 exact starts_bad_loop s hs s.size 0 [0] (by omega) (by omega) (by simp) (by simpa using h)
theorem refValid_is (s : ByteArray) (hs : s.size ≤ 1099511627776) : Ev (fun k => epitomeref01_Valid.f k s) (Lib.validD s.data.toList) := by
 unfold epitomeref01_Valid.f
 cases h : Lib.validD s.data.toList with
 | true =>
  obtain ⟨l, hl, rfl⟩ := valid_text s h
  have := (encT_size l).1
  exact Ev.bind (starts_enc l hl (by omega)) (Ev.now _)
 | false => exact Ev.bind (starts_bad s (by omega) h) (Ev.now _)
theorem refCount_enc (l : List Int) (hl : Runes l) (hb : l.length ≤ 1099511627776) : Ev (fun k => epitomeref01_Count.f k (encT l)) (l.length : Int) := by
 unfold epitomeref01_Count.f
 refine Ev.bind (starts_enc l hl hb) ?_
 rw [offs_length, w64 (by omega) (by omega), show (((l.length + 1 : Nat) : Int) - 1) = (l.length : Int) by omega]
 exact Ev.now _
end Go.Proofs.YthhgobiaecehbaaDoor.F
end
section
namespace Go.Proofs.YthhgobiaecehbaaDoor.F
open Go.RowKit Go.Proofs.YthhgobiaecehbaaDoorW.PrintWords Go.Proofs.YthhgobiaecehbaaDoorW.PrintLast Go.Proofs.YthhgobiaecehbaaDoorW.PrintMore
set_option linter.unusedVariables false
set_option linter.unusedSimpArgs false
theorem refSpanIn_is (u : Un) : epitomeref03_In.f u.sp.f0 u.sp.f1 u.sp.f2 = some (u.cin : Int) := by cases u <;> rfl
theorem refSpanOut_is (u : Un) (h : u.ok) (h2 : u.cout ≤ 1099511627776) : Ev (fun k => epitomeref03_Out.f k u.sp.f0 u.sp.f1 u.sp.f2) (u.cout : Int) := by
 unfold epitomeref03_Out.f
 cases u with
 | keep n => exact Ev.now _
 | put l =>
  refine ev_if_neg (by simp [Un.sp]) (ev_if_pos rfl (Ev.bind (refCount_enc l h h2) ?_))
  rw [show mx (l.length : Int) 0 = (l.length : Int) by unfold mx; rw [if_neg (by omega)]]
  exact Ev.now _
 | drop n => exact Ev.now _
theorem refOut_loop (l : List Un) (hl : Ok l) : ∀ (r pre : List Un), l = pre ++ r →
  Ev (fun k => epitomeref04_Out.l0 k (l.map Un.sp) (((pre.map Un.cout).sum : Nat) : Int) (pre.length : Int)) (((l.map Un.cout).sum : Nat) : Int)
 | [], pre, h => by
  rw [List.append_nil] at h
  subst h
  refine Ev.step (f := fun _ => some (((l.map Un.cout).sum : Nat) : Int)) (fun k => ?_) (Ev.now _)
  rw [epitomeref04_Out.l0, if_neg (by simp)]
 | u :: r, pre, h => by
  have hlt : (pre.length : Int) < ((l.map Un.sp).length : Int) := by subst h; simp <;> omega
  have hll : pre.length + (r.length + 1) = l.length := by subst h; simp
  have hle := hl.len
  have hco := hl.cout
  have hrd : rd_T41 (l.map Un.sp) (pre.length : Int) = u.sp := by
   rw [h, List.map_append, List.map_cons]
   exact rdS_at (by simp)
  have ih := refOut_loop l hl r (pre ++ [u]) (by simp [h])
  have hs : ((pre ++ [u]).map Un.cout).sum = (pre.map Un.cout).sum + u.cout := by simp
  have hle2 : (pre.map Un.cout).sum + u.cout ≤ (l.map Un.cout).sum := by rw [h]; simp <;> omega
  rw [hs, List.length_append] at ih
  refine Ev.step (f := fun k => (epitomeref03_Out.f k u.sp.f0 u.sp.f1 u.sp.f2).bind fun t => epitomeref04_Out.l0 k (l.map Un.sp) (wrap64 ((((pre.map Un.cout).sum : Nat) : Int) + t)) (wrap64 ((pre.length : Int) + 1))) (fun k => ?_) ?_
  ·rw [epitomeref04_Out.l0, if_pos hlt, if_pos (by omega), hrd]
  ·refine Ev.bind (refSpanOut_is u (hl.ok u (by rw [h]; simp)) (hl.cout_mem (by rw [h]; simp))) ?_
   rw [w64 (by omega) (by omega), w64_succ _ (by omega)]
   exact ih
theorem refOut_is {us : List Un} (h : Ok us) : Ev (fun k => epitomeref04_Out.f k (us.map Un.sp)) (((us.map Un.cout).sum : Nat) : Int) := by
 unfold epitomeref04_Out.f
 exact refOut_loop us h us [] rfl
end Go.Proofs.YthhgobiaecehbaaDoor.F
end
section
namespace Go.Proofs.YthhgobiaecehbaaDoor.F
open Go.RowKit Go.Proofs.YthhgobiaecehbaaDoorW.PrintWords Go.Proofs.YthhgobiaecehbaaDoorW.PrintLast Go.Proofs.YthhgobiaecehbaaDoorW.PrintMore
set_option linter.unusedVariables false
set_option linter.unusedSimpArgs false
def rowsS (w : List (List Un)) : List (List Sp) := w.map (fun us => us.map Un.sp)
theorem rowsS_length (w : List (List Un)) : (rowsS w).length = w.length := by unfold rowsS; exact List.length_map _
end Go.Proofs.YthhgobiaecehbaaDoor.F
end
section
namespace Go.Proofs.YthhgobiaecehbaaDoor.F
open Go.RowKit Go.Proofs.YthhgobiaecehbaaDoorW.PrintWords Go.Proofs.YthhgobiaecehbaaDoorW.PrintLast Go.Proofs.YthhgobiaecehbaaDoorW.PrintMore
set_option linter.unusedVariables false
set_option linter.unusedSimpArgs false
def ChainOk : Nat → List (List Un) → Prop
 | _, [] => True
 | n, us :: r => FitB us n ∧ ChainOk ((us.map Un.cout).sum) r
theorem chain_loop (l : List (List Sp)) (hl : l.length ≤ maxLen) (hw : ∀ y ∈ l, y.length ≤ maxLen ∧ ∀ x ∈ y, (Lit.int .i64 x.f0).wf = true ∧ (Lit.int .i64 x.f1).wf = true ∧ x.f2.size ≤ maxLen) :
  ∀ (d i n : Nat) (out : List (List Un)), out.length = i → i + d = min l.length 20 → n ≤ 63 + 78 * i → ∃ w, Ev (fun k => epitomeref04_Chain.l0 k l (n : Int) (rowsS out) (i : Int)) (rowsS (out ++ w)) ∧ ChainOk n w ∧ w.length = d
 | 0, i, n, out, ho, hi, hn => by
  refine ⟨[], ?_, trivial, rfl⟩
  rw [List.append_nil]
  have j1 : Ev (fun k => epitomeref04_Chain.j1 k l (n : Int) (rowsS out) (i : Int) false) (rowsS out) :=
   Ev.step (f := fun _ => some (rowsS out)) (fun k => by rw [epitomeref04_Chain.j1, if_neg (by simp)]) (Ev.now _)
  by_cases h : i < l.length
  ·refine Ev.step (f := fun k => epitomeref04_Chain.j1 k l (n : Int) (rowsS out) (i : Int) false) (fun k => ?_) j1
   rw [epitomeref04_Chain.l0, if_pos (by omega), decide_eq_false (by omega)]
  ·refine Ev.step (f := fun k => epitomeref04_Chain.j1 k l (n : Int) (rowsS out) (i : Int) false) (fun k => ?_) j1
   rw [epitomeref04_Chain.l0, if_neg (by omega)]
 | d + 1, i, n, out, ho, hi, hn => by
  have hil : i < l.length := by omega
  have hi20 : i < 20 := by omega
  have hy := hw l[i] (List.getElem_mem _)
  obtain ⟨us, ef, fu⟩ := fitB l[i] hy.1 hy.2 n (by omega)
  have hco := fu.cout
  obtain ⟨w, ew, hcw, hlw⟩ := chain_loop l hl hw d (i + 1) ((us.map Un.cout).sum) (out ++ [us]) (by simp [ho]) (by omega) (by omega)
  refine ⟨us :: w, ?_, ⟨fu, hcw⟩, by simp [hlw]⟩
  have hol : (rowsS out).length = i := by unfold rowsS; rw [List.length_map, ho]
  refine Ev.step (f := fun k => epitomeref04_Chain.j1 k l (n : Int) (rowsS out) (i : Int) true) (fun k => by rw [epitomeref04_Chain.l0, if_pos (by omega), decide_eq_true (by omega)]) ?_
  refine Ev.step (f := fun k => (epitomeref04_Fit.f k l[i] (n : Int)).bind fun t105 => if (rowsS out).length < 5864062014805 then (epitomeref04_Out.f k t105).bind fun t111 => epitomeref04_Chain.l0 k l t111 (rowsS out ++ [t105]) (wrap64 ((i : Int) + 1)) else none) (fun k => ?_) ?_
  ·rw [epitomeref04_Chain.j1, if_pos rfl, if_pos (by omega), if_pos (by omega)]
   have e : l.getD (i : Int).toNat [] = l[i] := by rw [Int.toNat_natCast, List.getD_eq_getElem?_getD, List.getElem?_eq_getElem hil]; rfl
   rw [← e]
   rfl
  ·refine Ev.bind ef (ev_if_pos (by omega) (Ev.bind (refOut_is fu.ok) ?_))
   rw [w64_succ i (by omega)]
   have e1 : rowsS out ++ [us.map Un.sp] = rowsS (out ++ [us]) := by simp [rowsS]
   have e2 : rowsS (out ++ us :: w) = rowsS (out ++ [us] ++ w) := by simp
   rw [e1, e2]
   exact ew
theorem chain_is (l : List (List Sp)) (hl : l.length ≤ maxLen) (hw : ∀ y ∈ l, y.length ≤ maxLen ∧ ∀ x ∈ y, (Lit.int .i64 x.f0).wf = true ∧ (Lit.int .i64 x.f1).wf = true ∧ x.f2.size ≤ maxLen) (n : Nat) (hn : n ≤ 63) :
  ∃ w, Ev (fun k => epitomeref04_Chain.f k l (n : Int)) (rowsS w) ∧ ChainOk n w ∧ w.length ≤ 20 := by
 obtain ⟨w, ew, hc, hlen⟩ := chain_loop l hl hw (min l.length 20) 0 n [] rfl (by omega) (by omega)
 refine ⟨w, ?_, hc, by omega⟩
 unfold epitomeref04_Chain.f
 simpa [rowsS] using ew
end Go.Proofs.YthhgobiaecehbaaDoor.F
end
section
namespace Go.Proofs.YthhgobiaecehbaaDoor.F
open Go.RowKit Go.Proofs.YthhgobiaecehbaaDoorW.PrintWords Go.Proofs.YthhgobiaecehbaaDoorW.PrintLast Go.Proofs.YthhgobiaecehbaaDoorW.PrintMore
set_option linter.unusedVariables false
set_option linter.unusedSimpArgs false
def cutT (m : Nat) (s : ByteArray) : ByteArray := s.extract 0 (mn (s.size : Int) (m : Int)).toNat
theorem cutT_size (m : Nat) (s : ByteArray) : (cutT m s).size ≤ m := by
 have h1 := mn_le (s.size : Int) (m : Int)
 have h2 := extract_size s (mn (s.size : Int) (m : Int)).toNat
 unfold cutT
 omega
def cutS (m : Nat) (s : Sp) : Sp := ⟨s.f0, s.f1, cutT m s.f2⟩
end Go.Proofs.YthhgobiaecehbaaDoor.F
end
section
namespace Go.Proofs.YthhgobiaecehbaaDoor.F
open Go.RowKit Go.Proofs.YthhgobiaecehbaaDoorW.PrintWords Go.Proofs.YthhgobiaecehbaaDoorW.PrintLast Go.Proofs.YthhgobiaecehbaaDoorW.PrintMore
set_option linter.unusedVariables false
set_option linter.unusedSimpArgs false
def compU : List U → List U → List U
 | x, .p r :: y => .p r :: compU x y
 | .d :: x, [] => .d :: compU x []
 | .d :: x, .k :: y => .d :: compU x (.k :: y)
 | .d :: x, .d :: y => .d :: compU x (.d :: y)
 | .p r :: x, .k :: y => .p r :: compU x y
 | .p _ :: x, .d :: y => compU x y
 | .k :: x, .k :: y => .k :: compU x y
 | .k :: x, .d :: y => .d :: compU x y
 | [], [] => []
 | [], .k :: _ => []
 | [], .d :: _ => []
 | .k :: _, [] => []
 | .p _ :: _, [] => []
termination_by x y => x.length + y.length
decreasing_by all_goals (simp only [List.length_cons, List.length_nil]; omega)
def noP : List U → Prop
 | .p _ :: _ => False
 | _ => True
theorem comp_p (x : List U) (r : Int) (y : List U) : compU x (.p r :: y) = .p r :: compU x y := by
 rcases x with _ | ⟨u, x⟩
 ·rw [compU]
 ·cases u <;> rw [compU]
theorem comp_d (x y : List U) (h : noP y) : compU (.d :: x) y = .d :: compU x y := by
 rcases y with _ | ⟨v, y⟩
 ·rw [compU]
 ·cases v with
  | p r => exact h.elim
  | k => rw [compU]
  | d => rw [compU]
theorem comp_nil : compU [] [] = [] := by rw [compU]
theorem comp_sizes (x y : List U) (h : coutU x = cinU y) : cinU (compU x y) = cinU x ∧ coutU (compU x y) = coutU y := by
 induction x, y using compU.induct with
 | case1 x r y ih => rw [comp_p]; have := ih h; simp only [cinU, coutU] at *; omega
 | case2 x ih => rw [compU]; have := ih h; simp only [cinU, coutU] at *; omega
 | case3 x y ih => rw [compU]; have := ih h; simp only [cinU, coutU] at *; omega
 | case4 x y ih => rw [compU]; have := ih h; simp only [cinU, coutU] at *; omega
 | case5 r x y ih => rw [compU]; simp only [cinU, coutU] at *; have := ih (by omega); omega
 | case6 r x y ih => rw [compU]; simp only [cinU, coutU] at *; have := ih (by omega); omega
 | case7 x y ih => rw [compU]; simp only [cinU, coutU] at *; have := ih (by omega); omega
 | case8 x y ih => rw [compU]; simp only [cinU, coutU] at *; have := ih (by omega); omega
 | case9 => rw [compU]; exact ⟨rfl, rfl⟩
 | _ => simp [cinU, coutU] at h
theorem comp_puts (l : List Int) (x y : List U) : compU x (l.map .p ++ y) = l.map .p ++ compU x y := by
 induction l with
 | nil => rfl
 | cons r l ih => rw [List.map_cons, List.cons_append, comp_p, ih, List.cons_append]
theorem comp_drops (n : Nat) (x y : List U) (h : noP y) : compU (List.replicate n .d ++ x) y = List.replicate n .d ++ compU x y := by
 induction n with
 | zero => rfl
 | succ n ih => rw [List.replicate_succ, List.cons_append, comp_d _ _ h, ih, List.cons_append]
theorem comp_kk (n : Nat) (x y : List U) : compU (List.replicate n .k ++ x) (List.replicate n .k ++ y) = List.replicate n .k ++ compU x y := by
 induction n with
 | zero => rfl
 | succ n ih => rw [List.replicate_succ, List.cons_append, List.cons_append, compU, ih, List.cons_append]
theorem comp_kd (n : Nat) (x y : List U) : compU (List.replicate n .k ++ x) (List.replicate n .d ++ y) = List.replicate n .d ++ compU x y := by
 induction n with
 | zero => rfl
 | succ n ih => rw [List.replicate_succ, List.replicate_succ, List.cons_append, List.cons_append, compU, ih, List.cons_append]
theorem comp_pk (l : List Int) (x y : List U) : compU (l.map .p ++ x) (List.replicate l.length .k ++ y) = l.map .p ++ compU x y := by
 induction l with
 | nil => rfl
 | cons r l ih => rw [List.map_cons, List.length_cons, List.replicate_succ, List.cons_append, List.cons_append, compU, ih, List.cons_append]
theorem comp_pd (l : List Int) (x y : List U) : compU (l.map .p ++ x) (List.replicate l.length .d ++ y) = compU x y := by
 induction l with
 | nil => rfl
 | cons r l ih => rw [List.map_cons, List.length_cons, List.replicate_succ, List.cons_append, List.cons_append, compU, ih]
theorem RunesU.consP {r : Int} {y : List U} (h : isRune r) (hy : RunesU y) : RunesU (.p r :: y) := by
 intro z hz
 rcases List.mem_cons.1 hz with e | hz
 ·injection e with e; subst e; exact h
 ·exact hy z hz
theorem RunesU.consK {y : List U} (hy : RunesU y) : RunesU (.k :: y) := by
 intro z hz
 rcases List.mem_cons.1 hz with e | hz
 ·cases e
 ·exact hy z hz
theorem RunesU.consD {y : List U} (hy : RunesU y) : RunesU (.d :: y) := by
 intro z hz
 rcases List.mem_cons.1 hz with e | hz
 ·cases e
 ·exact hy z hz
theorem RunesU.nil : RunesU [] := fun z hz => by cases hz
theorem comp_runes (x y : List U) (hx : RunesU x) (hy : RunesU y) : RunesU (compU x y) := by
 induction x, y using compU.induct with
 | case1 x r y ih => rw [comp_p]; exact RunesU.consP (hy r (by simp)) (ih hx hy.tail)
 | case2 x ih => rw [compU]; exact RunesU.consD (ih hx.tail hy)
 | case3 x y ih => rw [compU]; exact RunesU.consD (ih hx.tail hy)
 | case4 x y ih => rw [compU]; exact RunesU.consD (ih hx.tail hy)
 | case5 r x y ih => rw [compU]; exact RunesU.consP (hx r (by simp)) (ih hx.tail hy.tail)
 | case6 r x y ih => rw [compU]; exact ih hx.tail hy.tail
 | case7 x y ih => rw [compU]; exact RunesU.consK (ih hx.tail hy.tail)
 | case8 x y ih => rw [compU]; exact RunesU.consD (ih hx.tail hy.tail)
 | _ => rw [compU]; exact RunesU.nil
def putsU : List U → Nat
 | [] => 0
 | .p _ :: x => putsU x + 1
 | _ :: x => putsU x
theorem comp_less (x y : List U) : putsU (compU x y) ≤ putsU x + putsU y := by
 induction x, y using compU.induct <;> (try simp only [compU]) <;> (try simp only [putsU] at *) <;> omega
end Go.Proofs.YthhgobiaecehbaaDoor.F
end
section
namespace Go.Proofs.YthhgobiaecehbaaDoor.F
open Go.RowKit Go.Proofs.YthhgobiaecehbaaDoorW.PrintWords Go.Proofs.YthhgobiaecehbaaDoorW.PrintLast Go.Proofs.YthhgobiaecehbaaDoorW.PrintMore
set_option linter.unusedVariables false
set_option linter.unusedSimpArgs false
def consF (u : Un) (us : List Un) : List Un := if fullU u = true then u :: us else us
theorem ex_consF (u : Un) (us : List Un) : exU (consF u us) = u.ex ++ exU us := by
 unfold consF
 split
 ·exact exU_cons u us
 ·next h =>
  have : u.ex = [] := by
   cases u with
   | keep n => simp [fullU] at h; subst h; rfl
   | put l => simp [fullU] at h; subst h; rfl
   | drop n => simp [fullU] at h; subst h; rfl
  rw [this, List.nil_append]
def FullL (us : List Un) : Prop := ∀ u ∈ us, fullU u = true
theorem FullL.cons {u : Un} {us : List Un} (h : FullL (u :: us)) : fullU u = true ∧ FullL us := ⟨h u (by simp), fun v hv => h v (by simp [hv])⟩
theorem FullL.consF {u : Un} {us : List Un} (h : FullL us) : FullL (consF u us) := by
 unfold Go.Proofs.YthhgobiaecehbaaDoor.F.consF
 split
 ·next hu =>
  intro v hv
  rcases List.mem_cons.1 hv with rfl | hv
  ·exact hu
  ·exact h v hv
 ·exact h
theorem consF_length (u : Un) (us : List Un) : (consF u us).length ≤ us.length + 1 ∧ (fullU u = false → (consF u us).length = us.length) := by
 unfold consF
 split
 ·next h => exact ⟨by simp, fun e => by rw [h] at e; cases e⟩
 ·exact ⟨by omega, fun _ => rfl⟩
def compUn : Nat → List Un → List Un → List Un
 | n + 1, us, .put q :: vs => .put q :: compUn n us vs
 | n + 1, .drop m :: us, vs => .drop m :: compUn n us vs
 | n + 1, .keep a :: us, .keep b :: vs => .keep (min a b) :: compUn n (consF (.keep (a - b)) us) (consF (.keep (b - a)) vs)
 | n + 1, .keep a :: us, .drop b :: vs => .drop (min a b) :: compUn n (consF (.keep (a - b)) us) (consF (.drop (b - a)) vs)
 | n + 1, .put l :: us, .keep b :: vs => .put (l.take b) :: compUn n (consF (.put (l.drop b)) us) (consF (.keep (b - l.length)) vs)
 | n + 1, .put l :: us, .drop b :: vs => compUn n (consF (.put (l.drop b)) us) (consF (.drop (b - l.length)) vs)
 | _, _, _ => []
theorem noP_full {vs : List Un} (h : FullL vs) (hp : ∀ q r, vs ≠ .put q :: r) : noP (exU vs) := by
 rcases vs with _ | ⟨v, vs⟩
 ·trivial
 ·rw [exU_cons]
  have hv := h.cons.1
  cases v with
  | keep n => cases n with
   | zero => simp [fullU] at hv
   | succ n => trivial
  | put q => exact (hp q vs rfl).elim
  | drop n => cases n with
   | zero => simp [fullU] at hv
   | succ n => trivial
theorem rep_split {α : Type} (x : α) (a b : Nat) : List.replicate a x = List.replicate (min a b) x ++ List.replicate (a - b) x := by
 rw [List.replicate_append_replicate]
 congr 1
 omega
theorem len_step {u v : Un} {us vs : List Un} (h : fullU u = false ∨ fullU v = false) : (consF u us).length + (consF v vs).length ≤ us.length + vs.length + 1 := by
 have h1 := consF_length u us
 have h2 := consF_length v vs
 rcases h with h | h
 ·have := h1.2 h; omega
 ·have := h2.2 h; omega
theorem map_split (l : List Int) (b : Nat) : l.map U.p = (l.take b).map .p ++ (l.drop b).map .p := by
 rw [← List.map_append, List.take_append_drop]
theorem compUn_ex : ∀ (n : Nat) (us vs : List Un), FullL us → FullL vs → us.length + vs.length ≤ n → coutU (exU us) = cinU (exU vs) →
  exU (compUn n us vs) = compU (exU us) (exU vs) ∧ (compUn n us vs).length ≤ us.length + vs.length := by
 intro n
 induction n with
 | zero =>
  intro us vs _ _ h _
  obtain rfl : us = [] := List.eq_nil_of_length_eq_zero (by omega)
  obtain rfl : vs = [] := List.eq_nil_of_length_eq_zero (by omega)
  exact ⟨by rw [exU_nil, comp_nil]; rfl, Nat.le_refl _⟩
 | succ n ih =>
  intro us vs hu hv hn hc
  by_cases hp : ∃ q r, vs = .put q :: r
  ·obtain ⟨q, r, rfl⟩ := hp
   simp only [List.length_cons] at hn
   have := ih us r hu hv.cons.2 (by omega) (by rw [hc, exU_cons, cinU_append]; simp [Un.ex]; clear hc hn ih hu hv; induction q with | nil => rfl | cons a q ih => simpa [cinU] using ih)
   rw [show compUn (n + 1) us (.put q :: r) = .put q :: compUn n us r by simp only [compUn]]
   refine ⟨?_, by simp only [List.length_cons]; omega⟩
   rw [exU_cons, exU_cons, show (Un.put q).ex = q.map .p from rfl, comp_puts, this.1]
  ·have hp' : ∀ q r, vs ≠ .put q :: r := fun q r e => hp ⟨q, r, e⟩
   have hnp := noP_full hv hp'
   rcases us with _ | ⟨u, us⟩
   ·rcases vs with _ | ⟨v, vs⟩
    ·exact ⟨by rw [exU_nil, comp_nil]; rfl, Nat.zero_le _⟩
    ·exfalso
     have hv1 := hv.cons.1
     cases v with
     | put q => exact hp' q vs rfl
     | keep b => cases b with
      | zero => simp [fullU] at hv1
      | succ b => rw [exU_cons, show (Un.keep (b + 1)).ex = U.k :: List.replicate b .k from rfl] at hc; simp [exU, coutU, cinU] at hc
     | drop b => cases b with
      | zero => simp [fullU] at hv1
      | succ b => rw [exU_cons, show (Un.drop (b + 1)).ex = U.d :: List.replicate b .d from rfl] at hc; simp [exU, coutU, cinU] at hc
   ·simp only [List.length_cons] at hn
    have hu1 := hu.cons.1
    cases u with
    | drop m =>
     have e : compUn (n + 1) (.drop m :: us) vs = .drop m :: compUn n us vs := by
      rcases vs with _ | ⟨v, vs⟩
      ·simp only [compUn]
      ·cases v with
       | put q => exact (hp' q vs rfl).elim
       | keep b => simp only [compUn]
       | drop b => simp only [compUn]
     have hc2 : coutU (exU us) = cinU (exU vs) := by
      rw [← hc, exU_cons, coutU_append, show (Un.drop m).ex = List.replicate m .d from rfl]
      have : coutU (List.replicate m U.d) = 0 := by clear e hc hn hu hu1; induction m with | zero => rfl | succ m ih => rw [List.replicate_succ]; exact ih
      omega
     have := ih us vs hu.cons.2 hv (by omega) hc2
     rw [e]
     refine ⟨?_, by simp only [List.length_cons]; omega⟩
     rw [exU_cons, exU_cons, show (Un.drop m).ex = List.replicate m .d from rfl, comp_drops _ _ _ hnp, this.1]
    | keep a =>
     have ck : ∀ (c : Nat), coutU (List.replicate c U.k) = c := fun c => by induction c with | zero => rfl | succ c ih => rw [List.replicate_succ]; simp only [coutU]; omega
     have cik : ∀ (c : Nat), cinU (List.replicate c U.k) = c := fun c => by induction c with | zero => rfl | succ c ih => rw [List.replicate_succ]; simp only [cinU]; omega
     have cid : ∀ (c : Nat), cinU (List.replicate c U.d) = c := fun c => by induction c with | zero => rfl | succ c ih => rw [List.replicate_succ]; simp only [cinU]; omega
     rcases vs with _ | ⟨v, vs⟩
     ·exfalso
      rw [exU_cons, coutU_append, show (Un.keep a).ex = List.replicate a .k from rfl, ck, exU_nil] at hc
      simp [fullU] at hu1
      simp only [cinU] at hc
      omega
     ·simp only [List.length_cons] at hn
      cases v with
      | put q => exact (hp' q vs rfl).elim
      | keep b =>
       rw [exU_cons, coutU_append, exU_cons, cinU_append, show (Un.keep a).ex = List.replicate a .k from rfl, show (Un.keep b).ex = List.replicate b .k from rfl, ck, cik] at hc
       have hl := len_step (us := us) (vs := vs) (u := .keep (a - b)) (v := .keep (b - a)) ((Nat.le_total a b).elim (fun h => .inl (by simp [fullU]; omega)) (fun h => .inr (by simp [fullU]; omega)))
       have := ih (consF (.keep (a - b)) us) (consF (.keep (b - a)) vs) (FullL.consF hu.cons.2) (FullL.consF hv.cons.2) (by omega) (by rw [ex_consF, ex_consF, coutU_append, cinU_append]; show coutU (List.replicate _ _) + _ = cinU (List.replicate _ _) + _; rw [ck, cik]; omega)
       rw [show compUn (n + 1) (.keep a :: us) (.keep b :: vs) = .keep (min a b) :: compUn n (consF (.keep (a - b)) us) (consF (.keep (b - a)) vs) by simp only [compUn]]
       refine ⟨?_, by simp only [List.length_cons]; omega⟩
       rw [exU_cons, exU_cons, exU_cons, this.1, ex_consF, ex_consF, show (Un.keep a).ex = List.replicate a .k from rfl, show (Un.keep b).ex = List.replicate b .k from rfl, rep_split U.k a b, rep_split U.k b a, Nat.min_comm b a, List.append_assoc, List.append_assoc, comp_kk]
       rfl
      | drop b =>
       rw [exU_cons, coutU_append, exU_cons, cinU_append, show (Un.keep a).ex = List.replicate a .k from rfl, show (Un.drop b).ex = List.replicate b .d from rfl, ck, cid] at hc
       have hl := len_step (us := us) (vs := vs) (u := .keep (a - b)) (v := .drop (b - a)) ((Nat.le_total a b).elim (fun h => .inl (by simp [fullU]; omega)) (fun h => .inr (by simp [fullU]; omega)))
       have := ih (consF (.keep (a - b)) us) (consF (.drop (b - a)) vs) (FullL.consF hu.cons.2) (FullL.consF hv.cons.2) (by omega) (by rw [ex_consF, ex_consF, coutU_append, cinU_append]; show coutU (List.replicate _ _) + _ = cinU (List.replicate _ _) + _; rw [ck, cid]; omega)
       rw [show compUn (n + 1) (.keep a :: us) (.drop b :: vs) = .drop (min a b) :: compUn n (consF (.keep (a - b)) us) (consF (.drop (b - a)) vs) by simp only [compUn]]
       refine ⟨?_, by simp only [List.length_cons]; omega⟩
       rw [exU_cons, exU_cons, exU_cons, this.1, ex_consF, ex_consF, show (Un.keep a).ex = List.replicate a .k from rfl, show (Un.drop b).ex = List.replicate b .d from rfl, rep_split U.k a b, rep_split U.d b a, Nat.min_comm b a, List.append_assoc, List.append_assoc, comp_kd]
       rfl
    | put l =>
     have cp : ∀ (l : List Int), coutU (l.map U.p) = l.length := fun l => by induction l with | nil => rfl | cons a l ih => rw [List.map_cons]; simp only [coutU, List.length_cons]; omega
     have cik : ∀ (c : Nat), cinU (List.replicate c U.k) = c := fun c => by induction c with | zero => rfl | succ c ih => rw [List.replicate_succ]; simp only [cinU]; omega
     have cid : ∀ (c : Nat), cinU (List.replicate c U.d) = c := fun c => by induction c with | zero => rfl | succ c ih => rw [List.replicate_succ]; simp only [cinU]; omega
     rcases vs with _ | ⟨v, vs⟩
     ·exfalso
      rw [exU_cons, coutU_append, show (Un.put l).ex = l.map .p from rfl, cp, exU_nil] at hc
      simp [fullU] at hu1
      simp only [cinU] at hc
      exact hu1 (List.eq_nil_of_length_eq_zero (by omega))
     ·simp only [List.length_cons] at hn
      have tl : ∀ b, (l.take b).length = min b l.length := fun b => List.length_take
      cases v with
      | put q => exact (hp' q vs rfl).elim
      | keep b =>
       rw [exU_cons, coutU_append, exU_cons, cinU_append, show (Un.put l).ex = l.map .p from rfl, show (Un.keep b).ex = List.replicate b .k from rfl, cp, cik] at hc
       have hl := len_step (us := us) (vs := vs) (u := .put (l.drop b)) (v := .keep (b - l.length)) ((Nat.le_total l.length b).elim (fun h => .inl (by simp [fullU]; omega)) (fun h => .inr (by simp [fullU]; omega)))
       have := ih (consF (.put (l.drop b)) us) (consF (.keep (b - l.length)) vs) (FullL.consF hu.cons.2) (FullL.consF hv.cons.2) (by omega) (by rw [ex_consF, ex_consF, coutU_append, cinU_append]; show coutU (List.map _ _) + _ = cinU (List.replicate _ _) + _; rw [cp, cik, List.length_drop]; omega)
       rw [show compUn (n + 1) (.put l :: us) (.keep b :: vs) = .put (l.take b) :: compUn n (consF (.put (l.drop b)) us) (consF (.keep (b - l.length)) vs) by simp only [compUn]]
       refine ⟨?_, by simp only [List.length_cons]; omega⟩
       rw [exU_cons, exU_cons, exU_cons, this.1, ex_consF, ex_consF, show (Un.put l).ex = l.map .p from rfl, show (Un.keep b).ex = List.replicate b .k from rfl, map_split l b, rep_split U.k b l.length, ← tl b, List.append_assoc, List.append_assoc, comp_pk]
       rfl
      | drop b =>
       rw [exU_cons, coutU_append, exU_cons, cinU_append, show (Un.put l).ex = l.map .p from rfl, show (Un.drop b).ex = List.replicate b .d from rfl, cp, cid] at hc
       have hl := len_step (us := us) (vs := vs) (u := .put (l.drop b)) (v := .drop (b - l.length)) ((Nat.le_total l.length b).elim (fun h => .inl (by simp [fullU]; omega)) (fun h => .inr (by simp [fullU]; omega)))
       have := ih (consF (.put (l.drop b)) us) (consF (.drop (b - l.length)) vs) (FullL.consF hu.cons.2) (FullL.consF hv.cons.2) (by omega) (by rw [ex_consF, ex_consF, coutU_append, cinU_append]; show coutU (List.map _ _) + _ = cinU (List.replicate _ _) + _; rw [cp, cid, List.length_drop]; omega)
       rw [show compUn (n + 1) (.put l :: us) (.drop b :: vs) = compUn n (consF (.put (l.drop b)) us) (consF (.drop (b - l.length)) vs) by simp only [compUn]]
       refine ⟨?_, by simp only [List.length_cons]; omega⟩
       rw [exU_cons, exU_cons, this.1, ex_consF, ex_consF, show (Un.put l).ex = l.map .p from rfl, show (Un.drop b).ex = List.replicate b .d from rfl, map_split l b, rep_split U.d b l.length, ← tl b, List.append_assoc, List.append_assoc, comp_pd]
       rfl
theorem canon_full : ∀ y : List U, FullL (canon y)
 | [] => fun u hu => by cases hu
 | t :: y => by
  have ih := canon_full y
  intro u hu
  rw [canon_cons] at hu
  generalize canon y = c at ih hu
  rcases c with _ | ⟨v, r⟩
  ·cases t <;> (simp [consU] at hu; subst hu; rfl)
  ·have h2 : ∀ x ∈ r, fullU x = true := fun x hx => ih x (by simp [hx])
   have h1 : fullU v = true := ih v (by simp)
   cases t <;> cases v <;> simp only [consU, List.mem_cons] at hu <;> rcases hu with rfl | hu <;> first | rfl | exact h2 _ hu | (rcases hu with rfl | hu <;> first | exact h1 | exact h2 _ hu) | (simp [fullU])
end Go.Proofs.YthhgobiaecehbaaDoor.F
end
section
namespace Go.Proofs.YthhgobiaecehbaaDoor.F
open Go.RowKit Go.Proofs.YthhgobiaecehbaaDoorW.PrintWords Go.Proofs.YthhgobiaecehbaaDoorW.PrintLast Go.Proofs.YthhgobiaecehbaaDoorW.PrintMore
set_option linter.unusedVariables false
set_option linter.unusedSimpArgs false
def RdU : List Un → List Sp → List Int → Prop
 | [], l, t => l = [] ∧ t = []
 | .put q :: r, l, t => (∃ q0 : List Int, l = (Un.put q0).sp :: r.map Un.sp) ∧ t = q
 | .keep n :: r, l, t => l = (Un.keep n).sp :: r.map Un.sp ∧ t = []
 | .drop n :: r, l, t => l = (Un.drop n).sp :: r.map Un.sp ∧ t = []
def szU : Un → Nat
 | .keep n => n
 | .put l => l.length
 | .drop n => n
def hdU : Un → Nat → Un
 | .keep _, m => .keep m
 | .put l, m => .put (l.take m)
 | .drop _, m => .drop m
def tlU : Un → Nat → Un
 | .keep n, m => .keep (n - m)
 | .put l, m => .put (l.drop m)
 | .drop n, m => .drop (n - m)
structure Small (us : List Un) : Prop where
 ok : ∀ u ∈ us, u.ok
 sz : ∀ u ∈ us, szU u ≤ 1099511627776
theorem Small.tail {u : Un} {us : List Un} (h : Small (u :: us)) : Small us := ⟨fun v hv => h.ok v (by simp [hv]), fun v hv => h.sz v (by simp [hv])⟩
theorem Small.consF {u : Un} {us : List Un} (h : Small us) (h1 : u.ok) (h2 : szU u ≤ 1099511627776) : Small (consF u us) := by
 unfold Go.Proofs.YthhgobiaecehbaaDoor.F.consF
 split
 ·refine ⟨fun v hv => ?_, fun v hv => ?_⟩
  ·rcases List.mem_cons.1 hv with rfl | hv
   ·exact h1
   ·exact h.ok v hv
  ·rcases List.mem_cons.1 hv with rfl | hv
   ·exact h2
   ·exact h.sz v hv
 ·exact h
theorem tl_ok {u : Un} (h : u.ok) (m : Nat) : (tlU u m).ok := by
 cases u with
 | put l => exact fun r hr => h r (List.mem_of_mem_drop hr)
 | keep n => trivial
 | drop n => trivial
theorem tl_sz (u : Un) (m : Nat) : szU (tlU u m) ≤ szU u := by
 cases u with
 | put l => simp [tlU, szU]
 | keep n => simp [tlU, szU]
 | drop n => simp [tlU, szU]
theorem Small.tl {u : Un} {us : List Un} (h : Small (u :: us)) (m : Nat) : Small (Go.Proofs.YthhgobiaecehbaaDoor.F.consF (tlU u m) us) :=
 h.tail.consF (tl_ok (h.ok u (by simp)) m) (Nat.le_trans (tl_sz u m) (h.sz u (by simp)))
theorem load_un {us : List Un} (h : Small us) : ∃ t, loadR (us.map Un.sp) = some t ∧ RdU us (us.map Un.sp) t := by
 rcases us with _ | ⟨u, us⟩
 ·exact ⟨[], rfl, rfl, rfl⟩
 ·have h1 := h.ok u (by simp)
  have h2 := h.sz u (by simp)
  cases u with
  | keep n => exact ⟨[], strRunes_enc [] Runes.nil (by simp), rfl, rfl⟩
  | drop n => exact ⟨[], strRunes_enc [] Runes.nil (by simp), rfl, rfl⟩
  | put q => exact ⟨q, strRunes_enc q h1 h2, ⟨q, rfl⟩, rfl⟩
theorem w64_ge (n : Nat) (h : n ≤ 1099511627776) : wrap64 ((n : Nat) : Int) = n := w64 (by omega) (by omega)
theorem size_un {u : Un} {r : List Un} {l : List Sp} {t : List Int} (h : RdU (u :: r) l t) (hs : szU u ≤ 1099511627776) : sizeR l t = (szU u : Int) := by
 cases u with
 | keep n =>
  obtain ⟨rfl, rfl⟩ := h
  show wrap64 ((n : Int) + ((0 : Nat) : Int)) = n
  rw [show (n : Int) + ((0 : Nat) : Int) = (n : Int) by omega]
  exact w64_ge n hs
 | drop n =>
  obtain ⟨rfl, rfl⟩ := h
  show wrap64 ((n : Int) + ((0 : Nat) : Int)) = n
  rw [show (n : Int) + ((0 : Nat) : Int) = (n : Int) by omega]
  exact w64_ge n hs
 | put q =>
  obtain ⟨⟨q0, rfl⟩, rfl⟩ := h
  show wrap64 ((0 : Int) + ((t.length : Nat) : Int)) = t.length
  rw [Int.zero_add]
  exact w64_ge _ hs
theorem take_mark {r : List Un} {k n m : Nat} (hk : ((k : Nat) : Int) ≠ 2) (hr : Small r) (hn : n ≤ 1099511627776) (hm : m ≤ n) :
  (n - m = 0 ∧ ∃ t', takeR (⟨(k : Int), (n : Int), ⟨#[]⟩⟩ :: r.map Un.sp) [] (m : Int) = some (⟨(k : Int), (m : Int), ⟨#[]⟩⟩, r.map Un.sp, t') ∧ RdU r (r.map Un.sp) t') ∨
  (n - m ≠ 0 ∧ takeR (⟨(k : Int), (n : Int), ⟨#[]⟩⟩ :: r.map Un.sp) [] (m : Int) = some (⟨(k : Int), (m : Int), ⟨#[]⟩⟩, ⟨(k : Int), ((n - m : Nat) : Int), ⟨#[]⟩⟩ :: r.map Un.sp, [])) := by
 have e1 : wrap64 ((n : Int) - (m : Int)) = ((n - m : Nat) : Int) := by
  rw [show (n : Int) - (m : Int) = ((n - m : Nat) : Int) by omega]
  exact w64_ge _ (by omega)
 have e2 : sizeR ((⟨(k : Int), wrap64 ((n : Int) - (m : Int)), ⟨#[]⟩⟩ : Sp) :: r.map Un.sp) [] = ((n - m : Nat) : Int) := by
  show wrap64 (wrap64 ((n : Int) - (m : Int)) + ((0 : Nat) : Int)) = _
  rw [e1, show ((n - m : Nat) : Int) + ((0 : Nat) : Int) = ((n - m : Nat) : Int) by omega]
  exact w64_ge _ (by omega)
 by_cases h0 : n - m = 0
 ·refine .inl ⟨h0, ?_⟩
  obtain ⟨t2, e3, hr2⟩ := load_un hr
  refine ⟨t2, ?_, hr2⟩
  rw [takeR, if_neg hk, e2, if_pos (by omega), e3]
  rfl
 ·refine .inr ⟨h0, ?_⟩
  rw [takeR, if_neg hk, e2, if_neg (by omega), e1]
theorem take_un {u : Un} {r : List Un} {l : List Sp} {t : List Int} {m : Nat} (h : RdU (u :: r) l t) (hs : Small (u :: r)) (hm : m ≤ szU u) :
  ∃ l' t', takeR l t (m : Int) = some ((hdU u m).sp, l', t') ∧ RdU (consF (tlU u m) r) l' t' := by
 have hz := hs.sz u (by simp)
 have hk := hs.ok u (by simp)
 cases u with
 | keep n =>
  obtain ⟨rfl, rfl⟩ := h
  rcases take_mark (k := 1) (n := n) (by decide) hs.tail hz hm with ⟨h0, t', e, hr⟩ | ⟨h0, e⟩
  ·exact ⟨_, t', e, by rw [show consF (tlU (.keep n) m) r = r by simp [tlU, consF, fullU]; omega]; exact hr⟩
  ·exact ⟨_, _, e, by rw [show consF (tlU (.keep n) m) r = .keep (n - m) :: r by simp [tlU, consF, fullU]; omega]; exact ⟨rfl, rfl⟩⟩
 | drop n =>
  obtain ⟨rfl, rfl⟩ := h
  rcases take_mark (k := 3) (n := n) (by decide) hs.tail hz hm with ⟨h0, t', e, hr⟩ | ⟨h0, e⟩
  ·exact ⟨_, t', e, by rw [show consF (tlU (.drop n) m) r = r by simp [tlU, consF, fullU]; omega]; exact hr⟩
  ·exact ⟨_, _, e, by rw [show consF (tlU (.drop n) m) r = .drop (n - m) :: r by simp [tlU, consF, fullU]; omega]; exact ⟨rfl, rfl⟩⟩
 | put q =>
  obtain ⟨⟨q0, rfl⟩, rfl⟩ := h
  have hm' : m ≤ t.length := hm
  have hz' : t.length ≤ 1099511627776 := hz
  have e0 : runesBytes (t.take m) = encT (t.take m) := runesBytes_enc _ (fun x hx => hk x (List.mem_of_mem_take hx))
  have e2 : sizeR ((Un.put q0).sp :: r.map Un.sp) (t.drop m) = ((t.length - m : Nat) : Int) := by
   show wrap64 ((0 : Int) + (((t.drop m).length : Nat) : Int)) = _
   rw [Int.zero_add, List.length_drop]
   exact w64_ge _ (by omega)
  rw [takeR, if_pos (show (Un.put q0).sp.f0 = 2 from rfl), if_pos ⟨by omega, by omega⟩, Int.toNat_natCast, e2, e0]
  by_cases h0 : t.length - m = 0
  ·obtain ⟨t2, e3, hr2⟩ := load_un hs.tail
   rw [if_pos (by omega), e3]
   refine ⟨_, t2, rfl, ?_⟩
   rw [show consF (tlU (.put t) m) r = r by simp [tlU, consF, fullU]; omega]
   exact hr2
  ·rw [if_neg (by omega)]
   refine ⟨_, _, rfl, ?_⟩
   rw [show consF (tlU (.put t) m) r = .put (t.drop m) :: r by simp [tlU, consF, fullU]; omega]
   exact ⟨⟨q0, rfl⟩, rfl⟩
theorem take_all {u : Un} {r : List Un} {l : List Sp} {t : List Int} (h : RdU (u :: r) l t) (hs : Small (u :: r)) :
  ∃ l' t', takeR l t (sizeR l t) = some (u.sp, l', t') ∧ RdU r l' t' := by
 obtain ⟨l', t', e, hr⟩ := take_un h hs (Nat.le_refl _)
 refine ⟨l', t', ?_, ?_⟩
 ·rw [size_un h (hs.sz u (by simp)), e]
  cases u with
  | keep n => rfl
  | drop n => rfl
  | put q => rw [show hdU (.put q) (szU (.put q)) = .put q by simp [hdU, szU]]
 ·have e2 : consF (tlU u (szU u)) r = r := by
   cases u <;> simp [tlU, szU, consF, fullU]
  rwa [e2] at hr
theorem kind_un {u : Un} {r : List Un} {l : List Sp} {t : List Int} (h : RdU (u :: r) l t) : kindR l = u.sp.f0 := by
 cases u with
 | keep n => obtain ⟨rfl, rfl⟩ := h; rfl
 | drop n => obtain ⟨rfl, rfl⟩ := h; rfl
 | put q => obtain ⟨⟨q0, rfl⟩, rfl⟩ := h; rfl
theorem kind_nil {l : List Sp} {t : List Int} (h : RdU [] l t) : kindR l = 0 := by obtain ⟨rfl, rfl⟩ := h; rfl
theorem mn_nat (a b : Nat) : mn (a : Int) (b : Int) = ((min a b : Nat) : Int) := by unfold mn; split <;> omega
theorem take_min' (l : List Int) (b : Nat) : l.take (min l.length b) = l.take b := by
 rcases Nat.le_total l.length b with h | h
 ·rw [Nat.min_eq_left h, List.take_length, List.take_of_length_le h]
 ·rw [Nat.min_eq_right h]
theorem drop_min' (l : List Int) (b : Nat) : l.drop (min l.length b) = l.drop b := by
 rcases Nat.le_total l.length b with h | h
 ·rw [Nat.min_eq_left h, List.drop_length, List.drop_of_length_le h]
 ·rw [Nat.min_eq_right h]
theorem both_step {u v : Un} {us vs : List Un} {lx ly : List Sp} {tx ty : List Int} (hx : RdU (u :: us) lx tx) (hy : RdU (v :: vs) ly ty) (hu : Small (u :: us)) (hv : Small (v :: vs)) :
  ∃ lx' tx' ly' ty', takeR lx tx (mn (sizeR lx tx) (sizeR ly ty)) = some ((hdU u (min (szU u) (szU v))).sp, lx', tx') ∧ takeR ly ty (mn (sizeR lx tx) (sizeR ly ty)) = some ((hdU v (min (szU u) (szU v))).sp, ly', ty') ∧
   RdU (consF (tlU u (min (szU u) (szU v))) us) lx' tx' ∧ RdU (consF (tlU v (min (szU u) (szU v))) vs) ly' ty' ∧
   (consF (tlU u (min (szU u) (szU v))) us).length + (consF (tlU v (min (szU u) (szU v))) vs).length ≤ us.length + vs.length + 1 := by
 obtain ⟨lx', tx', e1, h1⟩ := take_un hx hu (Nat.min_le_left (szU u) (szU v))
 obtain ⟨ly', ty', e2, h2⟩ := take_un hy hv (Nat.min_le_right (szU u) (szU v))
 refine ⟨lx', tx', ly', ty', ?_, ?_, h1, h2, ?_⟩
 ·rw [size_un hx (hu.sz u (by simp)), size_un hy (hv.sz v (by simp)), mn_nat]; exact e1
 ·rw [size_un hx (hu.sz u (by simp)), size_un hy (hv.sz v (by simp)), mn_nat]; exact e2
 ·refine len_step ?_
  have full0 : ∀ (w : Un) (m : Nat), szU w ≤ m → fullU (tlU w m) = false := by
   intro w m hm
   cases w with
   | keep n => simp [tlU, fullU, szU] at *; omega
   | drop n => simp [tlU, fullU, szU] at *; omega
   | put q => simp [tlU, fullU, szU] at *; omega
  rcases Nat.le_total (szU u) (szU v) with h | h
  ·exact .inl (full0 u _ (by omega))
  ·exact .inr (full0 v _ (by omega))
theorem composeL_is : ∀ (n : Nat) (us vs : List Un) (lx : List Sp) (tx : List Int) (ly : List Sp) (ty : List Int) (out : List Sp), Small us → Small vs → FullL us → FullL vs → us.length + vs.length ≤ n → out.length + n ≤ 4398046511104 →
  RdU us lx tx → RdU vs ly ty → composeL (n + 1) lx tx ly ty out = some (out ++ (compUn n us vs).map Un.sp) := by
 intro n
 induction n with
 | zero =>
  intro us vs lx tx ly ty out _ _ _ _ h _ hx hy
  obtain rfl : us = [] := List.eq_nil_of_length_eq_zero (by omega)
  obtain rfl : vs = [] := List.eq_nil_of_length_eq_zero (by omega)
  rw [composeL, kind_nil hx, kind_nil hy]
  simp [compUn]
 | succ n ih =>
  intro us vs lx tx ly ty out hu hv fu fv hl ho hx hy
  have hlt : out.length < 4398046511104 := by omega
  rcases vs with _ | ⟨v, vs⟩
  ·rcases us with _ | ⟨u, us⟩
   ·rw [composeL, kind_nil hx, kind_nil hy]
    simp [compUn]
   ·simp only [List.length_cons] at hl
    cases u with
    | drop m =>
     obtain ⟨lx', tx', e, hx'⟩ := take_all hx hu
     rw [composeL, kind_nil hy, kind_un hx, if_neg (by decide), if_pos (show (Un.drop m).sp.f0 = 3 from rfl), e]
     simp only [Option.bind_some]
     rw [if_pos hlt, ih us [] lx' tx' ly ty _ hu.tail hv fu.cons.2 fv (by simp only [List.length_nil] at hl ⊢; omega) (by simp; omega) hx' hy]
     simp [compUn]
    | keep a =>
     rw [composeL, kind_nil hy, kind_un hx, if_neg (by decide), if_neg (show ¬ (Un.keep a).sp.f0 = 3 by simp [Un.sp]), if_pos (.inr rfl)]
     simp [compUn]
    | put q =>
     rw [composeL, kind_nil hy, kind_un hx, if_neg (by decide), if_neg (show ¬ (Un.put q).sp.f0 = 3 by simp [Un.sp]), if_pos (.inr rfl)]
     simp [compUn]
  ·simp only [List.length_cons] at hl
   by_cases hp : v.sp.f0 = 2
   ·cases v with
    | keep b => cases hp
    | drop b => cases hp
    | put q =>
     obtain ⟨ly', ty', e, hy'⟩ := take_all hy hv
     rw [composeL, kind_un hy, if_pos hp, e]
     simp only [Option.bind_some]
     rw [if_pos hlt, ih us vs lx tx ly' ty' _ hu hv.tail fu fv.cons.2 (by omega) (by simp; omega) hx hy']
     simp [compUn]
   ·rcases us with _ | ⟨u, us⟩
    ·rw [composeL, kind_un hy, kind_nil hx, if_neg hp, if_neg (by decide), if_pos (.inl rfl)]
     cases v with
     | put q => exact (hp rfl).elim
     | keep b => simp [compUn]
     | drop b => simp [compUn]
    ·simp only [List.length_cons] at hl
     by_cases hd : u.sp.f0 = 3
     ·cases u with
      | keep b => cases hd
      | put q => cases hd
      | drop m =>
       obtain ⟨lx', tx', e, hx'⟩ := take_all hx hu
       rw [composeL, kind_un hy, kind_un hx, if_neg hp, if_pos hd, e]
       simp only [Option.bind_some]
       rw [if_pos hlt, ih us (v :: vs) lx' tx' ly ty _ hu.tail hv fu.cons.2 fv (by simp only [List.length_cons]; omega) (by simp; omega) hx' hy]
       cases v with
       | put q => exact (hp rfl).elim
       | keep b => simp [compUn]
       | drop b => simp [compUn]
     ·obtain ⟨lx', tx', ly', ty', e1, e2, hx', hy', hlen⟩ := both_step hx hy hu hv
      have hne : ¬ (u.sp.f0 = 0 ∨ v.sp.f0 = 0) := by
       rintro (h | h)
       ·cases u <;> cases h
       ·cases v <;> cases h
      rw [composeL, kind_un hy, kind_un hx, if_neg hp, if_neg hd, if_neg hne, e1, Option.bind_some, e2, Option.bind_some]
      simp only
      have IH := fun o (ho2 : o.length + n ≤ 4398046511104) => ih _ _ lx' tx' ly' ty' o (hu.tl (min (szU u) (szU v))) (hv.tl (min (szU u) (szU v))) (FullL.consF fu.cons.2) (FullL.consF fv.cons.2) (by omega) ho2 hx' hy'
      cases v with
      | put q => exact (hp rfl).elim
      | keep b =>
       cases u with
       | drop m => exact (hd rfl).elim
       | keep a =>
        rw [if_pos (show (hdU (.keep b) (min (szU (.keep a)) (szU (.keep b)))).sp.f0 = 1 from rfl), if_pos hlt, IH _ (by simp; omega)]
        simp only [compUn, hdU, tlU, szU, List.map_cons, List.append_assoc, List.singleton_append]
        rw [show a - min a b = a - b by omega, show b - min a b = b - a by omega]
       | put l =>
        rw [if_pos (show (hdU (.keep b) (min (szU (.put l)) (szU (.keep b)))).sp.f0 = 1 from rfl), if_pos hlt, IH _ (by simp; omega)]
        simp only [compUn, hdU, tlU, szU, List.map_cons, List.append_assoc, List.singleton_append]
        rw [take_min', drop_min', show b - min l.length b = b - l.length by omega]
      | drop b =>
       cases u with
       | drop m => exact (hd rfl).elim
       | keep a =>
        rw [if_neg (show ¬ (hdU (.drop b) (min (szU (.keep a)) (szU (.drop b)))).sp.f0 = 1 by simp [hdU, Un.sp]), if_pos (show (hdU (.keep a) (min (szU (.keep a)) (szU (.drop b)))).sp.f0 = 1 from rfl), if_pos hlt, IH _ (by simp; omega)]
        simp only [compUn, hdU, tlU, szU, List.map_cons, List.append_assoc, List.singleton_append]
        rw [show a - min a b = a - b by omega, show b - min a b = b - a by omega]
       | put l =>
        rw [if_neg (show ¬ (hdU (.drop b) (min (szU (.put l)) (szU (.drop b)))).sp.f0 = 1 by simp [hdU, Un.sp]), if_neg (show ¬ (hdU (.put l) (min (szU (.put l)) (szU (.drop b)))).sp.f0 = 1 by simp [hdU, Un.sp]), IH _ (by omega)]
        simp only [compUn, hdU, tlU, szU]
        rw [drop_min', show b - min l.length b = b - l.length by omega]
end Go.Proofs.YthhgobiaecehbaaDoor.F
end
section
namespace Go.Proofs.YthhgobiaecehbaaDoor.F
open Go.RowKit Go.Proofs.YthhgobiaecehbaaDoorW.PrintWords Go.Proofs.YthhgobiaecehbaaDoorW.PrintLast Go.Proofs.YthhgobiaecehbaaDoorW.PrintMore
set_option linter.unusedVariables false
set_option linter.unusedSimpArgs false
theorem cout_text : ∀ us : List Un, (us.map Un.cout).sum ≤ (us.map Un.cin).sum + sizeS (us.map Un.sp)
 | [] => Nat.zero_le _
 | u :: us => by
  have h2 := cout_text us
  have h1 : u.cout ≤ u.cin + u.sp.f2.size := by
   cases u with
   | keep n => exact Nat.le_add_right _ _
   | put l => exact Nat.le_trans (encT_size l).1 (Nat.le_add_left _ _)
   | drop n => exact Nat.zero_le _
  unfold sizeS at h2 ⊢
  simp only [List.map_cons, List.sum_cons]
  omega
end Go.Proofs.YthhgobiaecehbaaDoor.F
end
section
namespace Go.Proofs.YthhgobiaecehbaaDoor.F
open Go.RowKit Go.Proofs.YthhgobiaecehbaaDoorW.PrintWords Go.Proofs.YthhgobiaecehbaaDoorW.PrintLast Go.Proofs.YthhgobiaecehbaaDoorW.PrintMore
set_option linter.unusedVariables false
set_option linter.unusedSimpArgs false
theorem toList_inj {a b : ByteArray} (h : a.toList = b.toList) : a = b := by
 rw [ByteArray.toList_eq, ByteArray.toList_eq] at h
 apply ByteArray.ext
 exact Array.ext' h
end Go.Proofs.YthhgobiaecehbaaDoor.F
end
section
namespace Go.Proofs.YthhgobiaecehbaaDoor.F
open Go.RowKit Go.Proofs.YthhgobiaecehbaaDoorW.PrintWords Go.Proofs.YthhgobiaecehbaaDoorW.PrintLast Go.Proofs.YthhgobiaecehbaaDoorW.PrintMore
set_option linter.unusedVariables false
set_option linter.unusedSimpArgs false
def spMayD (s : Sp) : Int := if s.f0 = 1 ∨ s.f0 = 3 then (if s.f1 < 0 ∨ s.f1 > 1048576 then 2 else if s.f2.toList = [] then 0 else 3) else if s.f0 = 2 then (if s.f1 = 0 then (if Lib.validD s.f2.data.toList = true then 0 else 3) else 2) else 1
theorem spanMay_all (s : Sp) (hs : s.f2.size ≤ 1099511627776) : Ev (fun k => span_May.f k s.f0 s.f1 s.f2) (spMayD s) := by
 obtain ⟨a0, a1, a2⟩ := s
 simp only at hs ⊢
 have hv : points_Valid.f a2 = some (Lib.validD a2.data.toList) := valid_some (by omega) rfl
 have j1t : ∀ x b, Ev (fun k => span_May.j1 k true a0 a1 a2 x b) 2 := by
  intro x b
  refine Ev.step (f := fun _ => some 2) (fun k => ?_) (Ev.now _)
  rw [span_May.j1, if_pos rfl]
 have j0t : ∀ x b, Ev (fun k => span_May.j0 k true a0 a1 a2 x b) 2 := by
  intro x b
  refine Ev.step (fun k => ?_) (j1t x b)
  rw [span_May.j0, if_pos rfl]
 have j2f : ∀ v, (if Lib.validD a2.data.toList = true then (0 : Int) else 3) = v → Ev (fun k => span_May.j2 k false a0 a1 a2) v := by
  rintro v rfl
  refine Ev.step (f := fun _ => some (if Lib.validD a2.data.toList = true then (0 : Int) else 3)) (fun k => ?_) (Ev.now _)
  rw [span_May.j2, if_neg (by simp), hv, Option.bind_some]
  split <;> rfl
 have takes : ∀ (k3 : Int) (b : Bool), a0 = k3 → (k3 = 1 ∨ k3 = 3) → span_of.f a0 a1 a2 = some (true, b, true) → Ev (fun k => span_May.f k a0 a1 a2) (spMayD ⟨a0, a1, a2⟩) := by
  intro k3 b e0 e1 e2
  unfold span_May.f spMayD
  simp only
  rw [if_pos (by omega)]
  refine ev_some e2 (ev_if_pos rfl (ev_if_pos rfl ?_))
  by_cases c1 : a1 < 0
  ·rw [if_pos (.inl c1)]
   exact ev_if_pos c1 (j0t _ _)
  ·refine ev_if_neg c1 ?_
   by_cases c2 : a1 > 1048576
   ·rw [if_pos (.inr c2), decide_eq_true c2]
    exact j0t _ _
   ·rw [if_neg (by omega), decide_eq_false c2]
    refine Ev.step (f := fun k => span_May.j1 k false a0 a1 a2 true b) (fun k => by rw [span_May.j0, if_neg (by simp), if_pos rfl]) ?_
    refine Ev.step (f := fun k => span_May.j2 k (a2.toList != []) a0 a1 a2) (fun k => by rw [span_May.j1, if_neg (by simp), if_pos rfl]) ?_
    by_cases c3 : a2.toList = []
    ·rw [if_pos c3, show (a2.toList != ([] : List UInt8)) = false by simp [c3]]
     refine j2f 0 ?_
     have : a2.data.toList = [] := by rw [← ByteArray.toList_eq, c3]
     rw [this]
     rfl
    ·rw [if_neg c3, show (a2.toList != ([] : List UInt8)) = true by simp [c3]]
     refine Ev.step (f := fun _ => some 3) (fun k => ?_) (Ev.now _)
     rw [span_May.j2, if_pos rfl]
 by_cases c1 : a0 = 1
 ·subst c1
  exact takes 1 true rfl (.inl rfl) rfl
 by_cases c3 : a0 = 3
 ·subst c3
  exact takes 3 false rfl (.inr rfl) rfl
 unfold span_May.f spMayD
 simp only
 rw [if_neg (by omega)]
 by_cases c2 : a0 = 2
 ·subst c2
  rw [if_pos rfl]
  refine ev_some (show span_of.f 2 a1 a2 = some (false, false, true) from rfl) (ev_if_pos rfl (ev_if_neg (by simp) ?_))
  refine Ev.step (f := fun k => span_May.j1 k (a1 != 0) 2 a1 a2 false false) (fun k => by rw [span_May.j0, if_neg (by simp), if_neg (by simp)]) ?_
  by_cases c4 : a1 = 0
  ·rw [if_pos c4, show (a1 != 0) = false by simp [c4]]
   refine Ev.step (fun k => ?_) (j2f _ rfl)
   rw [span_May.j1, if_neg (by simp), if_neg (by simp)]
  ·rw [if_neg c4, show (a1 != 0) = true by simp [c4]]
   exact j1t _ _
 ·rw [if_neg c2]
  have : span_of.f a0 a1 a2 = some (false, false, false) := by unfold span_of.f; rw [if_neg c1, if_neg c2, if_neg c3]
  exact ev_some this (ev_if_neg (by simp) (Ev.now _))
theorem refMay_all (s : Sp) (hs : s.f2.size ≤ 1099511627776) : Ev (fun k => epitomeref03_May.f k s.f0 s.f1 s.f2) (spMayD s) := by
 obtain ⟨a0, a1, a2⟩ := s
 simp only at hs ⊢
 have j1t : Ev (fun k => epitomeref03_May.j1 k true a0 a1 a2) 2 := by
  refine Ev.step (f := fun _ => some 2) (fun k => ?_) (Ev.now _)
  rw [epitomeref03_May.j1, if_pos rfl]
 have takes : (a0 = 1 ∨ a0 = 3) → Ev (fun k => epitomeref03_May.j0 k a0 true a0 a1 a2) (spMayD ⟨a0, a1, a2⟩) := by
  intro e
  refine Ev.step (f := fun k => _) (fun k => by rw [epitomeref03_May.j0, if_pos rfl]) ?_
  unfold spMayD
  simp only
  rw [if_pos e]
  by_cases c1 : a1 < 0
  ·rw [if_pos (.inl c1)]
   exact ev_if_pos c1 j1t
  ·refine ev_if_neg c1 ?_
   by_cases c2 : a1 > 1048576
   ·rw [if_pos (.inr c2), decide_eq_true c2]
    exact j1t
   ·rw [if_neg (by omega), decide_eq_false c2]
    refine Ev.step (f := fun _ => some (if a2.toList = [] then 0 else 3)) (fun k => ?_) (Ev.now _)
    rw [epitomeref03_May.j1, if_neg (by simp)]
    split <;> rfl
 unfold epitomeref03_May.f
 by_cases c1 : a0 = 1
 ·refine ev_if_pos c1 ?_
  rw [show (a0 == 1) = true by simp [c1]]
  exact takes (.inl c1)
 refine ev_if_neg c1 ?_
 by_cases c3 : a0 = 3
 ·rw [show (a0 == 3) = true by simp [c3]]
  exact takes (.inr c3)
 rw [show (a0 == 3) = false by simp [c3]]
 refine Ev.step (f := fun k => _) (fun k => by rw [epitomeref03_May.j0, if_neg (by simp)]) ?_
 unfold spMayD
 simp only
 rw [if_neg (by omega)]
 by_cases c2 : a0 = 2
 ·rw [if_pos c2]
  refine ev_if_pos c2 ?_
  by_cases c4 : a1 = 0
  ·rw [if_pos c4]
   refine ev_if_pos c4 (Ev.bind (refValid_is a2 hs) ?_)
   by_cases c5 : Lib.validD a2.data.toList = true
   ·simp only [if_pos c5]
    exact Ev.now _
   ·simp only [if_neg c5]
    exact Ev.now _
  ·rw [if_neg c4]
   exact ev_if_neg c4 (Ev.now _)
 ·rw [if_neg c2]
  exact ev_if_neg c2 (Ev.now _)
theorem spMay_un (s : Sp) (hs : s.f2.size ≤ 1099511627776) (h : spMayD s = 0) : ∃ u : Un, s = u.sp ∧ u.ok ∧ u.cin ≤ 1048576 ∧ u.cout ≤ 1048576 + s.f2.size := by
 obtain ⟨a0, a1, a2⟩ := s
 unfold spMayD at h
 simp only at h hs
 have emp : a2.toList = [] → a2 = ⟨#[]⟩ := by
  intro e
  apply toList_inj
  rw [e, ByteArray.toList_eq]
 split at h
 ·next c =>
  split at h
  ·omega
  ·next c1 =>
   split at h
   ·next c2 =>
    have := emp c2
    subst this
    obtain ⟨n, rfl⟩ : ∃ n : Nat, a1 = (n : Int) := ⟨a1.toNat, by omega⟩
    rcases c with rfl | rfl
    ·exact ⟨.keep n, rfl, trivial, by show n ≤ _; omega, by show n ≤ _; omega⟩
    ·exact ⟨.drop n, rfl, trivial, by show n ≤ _; omega, Nat.zero_le _⟩
   ·omega
 ·split at h
  ·next c =>
   split at h
   ·next c1 =>
    split at h
    ·next c2 =>
     obtain ⟨l, hl, rfl⟩ := valid_text a2 c2
     subst c
     subst c1
     have := (encT_size l).1
     exact ⟨.put l, rfl, hl, Nat.zero_le _, by show l.length ≤ 1048576 + (encT l).size; omega⟩
    ·omega
   ·omega
  ·omega
def opMayD : List Sp → Int
 | [] => 0
 | s :: r => if spMayD s = 0 then opMayD r else spMayD s
theorem opMay_un : ∀ (l : List Sp), (∀ s ∈ l, s.f2.size ≤ 1048576) → opMayD l = 0 → ∃ us : List Un, l = us.map Un.sp ∧ (∀ u ∈ us, u.ok) ∧ (us.map Un.cin).sum ≤ 1048576 * l.length ∧ (us.map Un.cout).sum ≤ 2097152 * l.length
 | [], _, _ => ⟨[], rfl, by simp, by simp, by simp⟩
 | s :: r, h, e => by
  rw [opMayD] at e
  have hs := h s (by simp)
  split at e
  ·next c =>
   obtain ⟨u, e1, e2, e3, e4⟩ := spMay_un s (by omega) c
   obtain ⟨us, d1, d2, d3, d4⟩ := opMay_un r (fun x hx => h x (by simp [hx])) e
   refine ⟨u :: us, by rw [e1, d1]; rfl, ?_, ?_, ?_⟩
   ·intro v hv
    rcases List.mem_cons.1 hv with rfl | hv
    ·exact e2
    ·exact d2 v hv
   ·simp only [List.map_cons, List.sum_cons, List.length_cons]; omega
   ·simp only [List.map_cons, List.sum_cons, List.length_cons]; omega
  ·next c => exact absurd e c
theorem rowSum_big (l : List Un) (hl : l.length ≤ 2097152) (hc : (l.map Un.cin).sum ≤ 4611686018427387904) : ∀ (r pre : List Un), l = pre ++ r →
  Ev (fun k => op_row_sum.l0 k (((pre.map Un.cin).sum : Nat) : Int) (l.map Un.sp) ((l.map Un.sp).length : Int) (pre.length : Int)) (((l.map Un.cin).sum : Nat) : Int) ∧
  Ev (fun k => epitomeref04_In.l0 k (l.map Un.sp) (((pre.map Un.cin).sum : Nat) : Int) (pre.length : Int)) (((l.map Un.cin).sum : Nat) : Int)
 | [], pre, h => by
  refine ⟨Ev.step (f := fun _ => some (((l.map Un.cin).sum : Nat) : Int)) (fun k => ?_) (Ev.now _), Ev.step (f := fun _ => some (((l.map Un.cin).sum : Nat) : Int)) (fun k => ?_) (Ev.now _)⟩
  ·rw [op_row_sum.l0, if_neg (by subst h; simp)]
   subst h
   simp
  ·rw [epitomeref04_In.l0, if_neg (by subst h; simp)]
   subst h
   simp
 | u :: r, pre, h => by
  have hlt : (pre.length : Int) < ((l.map Un.sp).length : Int) := by subst h; simp <;> omega
  have hll : pre.length + (r.length + 1) = l.length := by subst h; simp
  have hrd : rd_T41 (l.map Un.sp) (pre.length : Int) = u.sp := by
   rw [h, List.map_append, List.map_cons]
   exact rdS_at (by simp)
  have hs : (l.map Un.cin).sum = (pre.map Un.cin).sum + (u.cin + (r.map Un.cin).sum) := by rw [h]; simp
  have ih := rowSum_big l hl hc r (pre ++ [u]) (by simp [h])
  have hin : epitomeref03_In.f u.sp.f0 u.sp.f1 u.sp.f2 = some (u.cin : Int) := by cases u <;> rfl
  refine ⟨Ev.step (fun k => ?_) ih.1, Ev.step (fun k => ?_) ih.2⟩
  ·rw [op_row_sum.l0, if_pos hlt, if_pos (by omega), if_pos hlt, hrd, spanIn_is, Option.bind_some, w64_succ _ (by omega), w64 (by omega) (by omega)]
   simp
  ·rw [epitomeref04_In.l0, if_pos hlt, if_pos (by omega), hrd, hin, Option.bind_some, w64_succ _ (by omega), w64 (by omega) (by omega)]
   simp
theorem refIn_is {us : List Un} (h : Ok us) : Ev (fun k => epitomeref04_In.f k (us.map Un.sp)) (((us.map Un.cin).sum : Nat) : Int) := by
 unfold epitomeref04_In.f
 have hc := h.cin
 exact (rowSum_big us h.len (by omega) us [] rfl).2
theorem may_loop (l : List Sp) (hl : l.length ≤ 2097152) (hz : ∀ s ∈ l, s.f2.size ≤ 1048576) (e : Int) (hin : opMayD l = 0 → Ev (fun k => (op_In.f k l).bind fun t104 => if t104 > 1048576 then some 4 else some 0) e ∧ Ev (fun k => (epitomeref04_In.f k l).bind fun t104 => if t104 > 1048576 then some 4 else some 0) e) (hno : opMayD l ≠ 0 → e = opMayD l) :
  ∀ (r pre : List Sp), l = pre ++ r → opMayD l = opMayD r →
  Ev (fun k => op_May.l0 k l l (l.length : Int) (pre.length : Int)) e ∧ Ev (fun k => epitomeref04_May.l0 k l (pre.length : Int)) e
 | [], pre, h, hm => by
  have := hin hm
  refine ⟨Ev.step (fun k => ?_) this.1, Ev.step (fun k => ?_) this.2⟩
  ·rw [op_May.l0, if_neg (by subst h; simp)]
  ·rw [epitomeref04_May.l0, if_neg (by subst h; simp)]
 | s :: r, pre, h, hm => by
  have hlt : (pre.length : Int) < (l.length : Int) := by subst h; simp <;> omega
  have hll : pre.length + (r.length + 1) = l.length := by subst h; simp
  have hrd : rd_T41 l (pre.length : Int) = s := by
   rw [h]
   exact rdS_at rfl
  have hs := hz s (by rw [h]; simp)
  by_cases c : spMayD s = 0
  ·rw [opMayD, if_pos c] at hm
   have ih := may_loop l hl hz e hin hno r (pre ++ [s]) (by simp [h]) hm
   refine ⟨Ev.step (f := fun k => _) (fun k => by rw [op_May.l0, if_pos hlt, if_pos (by omega), if_pos hlt, hrd, w64_succ _ (by omega)]) ?_, Ev.step (f := fun k => _) (fun k => by rw [epitomeref04_May.l0, if_pos hlt, if_pos (by omega), hrd, w64_succ _ (by omega)]) ?_⟩
   ·refine Ev.bind (spanMay_all s (by omega)) (ev_if_pos c ?_)
    simpa using ih.1
   ·refine Ev.bind (refMay_all s (by omega)) (ev_if_pos c ?_)
    simpa using ih.2
  ·rw [opMayD, if_neg c] at hm
   have he : e = spMayD s := by rw [hno (by rw [hm]; exact c), hm]
   subst he
   refine ⟨Ev.step (f := fun k => _) (fun k => by rw [op_May.l0, if_pos hlt, if_pos (by omega), if_pos hlt, hrd, w64_succ _ (by omega)]) ?_, Ev.step (f := fun k => _) (fun k => by rw [epitomeref04_May.l0, if_pos hlt, if_pos (by omega), hrd, w64_succ _ (by omega)]) ?_⟩
   ·exact Ev.bind (spanMay_all s (by omega)) (ev_if_neg c (Ev.now _))
   ·exact Ev.bind (refMay_all s (by omega)) (ev_if_neg c (Ev.now _))
theorem may_all (l : List Sp) (hl : l.length ≤ 500000) (hz : ∀ s ∈ l, s.f2.size ≤ 1048576) : ∃ e : Int, Ev (fun k => op_May.f k l) e ∧ Ev (fun k => epitomeref04_May.f k l) e ∧ (e = 0 → ∃ us, l = us.map Un.sp ∧ Ok us) := by
 unfold op_May.f epitomeref04_May.f
 by_cases h0 : opMayD l = 0
 ·obtain ⟨us, e1, e2, e3, e4⟩ := opMay_un l hz h0
  have hul : us.length = l.length := by rw [e1]; simp
  have hsum := rowSum_big us (by omega) (by omega) us [] rfl
  have i1 : Ev (fun k => op_In.f k l) (((us.map Un.cin).sum : Nat) : Int) := by
   unfold op_In.f op_row_sum.f
   rw [e1]
   exact Ev.bind hsum.1 (Ev.now _)
  have i2 : Ev (fun k => epitomeref04_In.f k l) (((us.map Un.cin).sum : Nat) : Int) := by
   unfold epitomeref04_In.f
   rw [e1]
   exact hsum.2
  by_cases hb : (us.map Un.cin).sum ≤ 1048576
  ·have := may_loop l (by omega) hz 0 (fun _ => ⟨Ev.bind i1 (ev_if_neg (by omega) (Ev.now _)), Ev.bind i2 (ev_if_neg (by omega) (Ev.now _))⟩) (fun h => absurd h0 h) l [] rfl rfl
   exact ⟨0, this.1, this.2, fun _ => ⟨us, e1, e2, by omega, hb, by omega⟩⟩
  ·have := may_loop l (by omega) hz 4 (fun _ => ⟨Ev.bind i1 (ev_if_pos (by omega) (Ev.now _)), Ev.bind i2 (ev_if_pos (by omega) (Ev.now _))⟩) (fun h => absurd h0 h) l [] rfl rfl
   exact ⟨4, this.1, this.2, fun h => by omega⟩
 ·have := may_loop l (by omega) hz (opMayD l) (fun h => absurd h h0) (fun _ => rfl) l [] rfl rfl
  exact ⟨opMayD l, this.1, this.2, fun h => absurd h h0⟩
end Go.Proofs.YthhgobiaecehbaaDoor.F
end
section
namespace Go.Proofs.YthhgobiaecehbaaDoor.F
open Go.RowKit Go.Proofs.YthhgobiaecehbaaDoorW.PrintWords Go.Proofs.YthhgobiaecehbaaDoorW.PrintLast Go.Proofs.YthhgobiaecehbaaDoorW.PrintMore
set_option linter.unusedVariables false
set_option linter.unusedSimpArgs false
def fewS (l : List Sp) : List Sp := (l.take 20).map (cutS 60)
theorem fewS_length (l : List Sp) : (fewS l).length ≤ 20 := by unfold fewS; rw [List.length_map, List.length_take]; omega
theorem fewS_text (l : List Sp) : ∀ s ∈ fewS l, s.f2.size ≤ 60 := by
 intro s hs
 obtain ⟨x, _, rfl⟩ := List.mem_map.1 hs
 exact cutT_size 60 x.f2
theorem sizeS_le (m : Nat) : ∀ l : List Sp, (∀ s ∈ l, s.f2.size ≤ m) → sizeS l ≤ m * l.length
 | [], _ => Nat.zero_le _
 | s :: l, h => by
  have h1 := h s (by simp)
  have h2 := sizeS_le m l (fun x hx => h x (by simp [hx]))
  unfold sizeS at h2 ⊢
  rw [List.map_cons, List.sum_cons, List.length_cons, Nat.mul_succ]
  omega
theorem few_ops (l : List Sp) : ∃ e : Int, Ev (fun k => op_May.f k (fewS l)) e ∧ Ev (fun k => epitomeref04_May.f k (fewS l)) e ∧ (e = 0 → ∃ us, fewS l = us.map Un.sp ∧ Ok us ∧ (us.map Un.cout).sum ≤ 1049776) := by
 have h1 := fewS_length l
 have h2 := fewS_text l
 obtain ⟨e, p, q, w⟩ := may_all (fewS l) (by omega) (fun s hs => by have := h2 s hs; omega)
 refine ⟨e, p, q, fun he => ?_⟩
 obtain ⟨us, hus, hok⟩ := w he
 refine ⟨us, hus, hok, ?_⟩
 have h3 := cout_text us
 have h4 := hok.cin
 have h5 := sizeS_le 60 (fewS l) h2
 rw [← hus] at h3
 omega
theorem ev_det {α : Type} {g : Nat → Option α} {a b : α} (h1 : Ev g a) (h2 : Ev g b) : a = b := by
 obtain ⟨K1, h1⟩ := h1
 obtain ⟨K2, h2⟩ := h2
 have e1 := h1 (max K1 K2) (Nat.le_max_left _ _)
 rw [h2 (max K1 K2) (Nat.le_max_right _ _)] at e1
 exact (Option.some.inj e1).symm
theorem cout_le_sum {us : List Un} {u : Un} (hu : u ∈ us) : u.cout ≤ (us.map Un.cout).sum := by
 induction us with
 | nil => cases hu
 | cons v us ih =>
  rw [List.map_cons, List.sum_cons]
  rcases List.mem_cons.1 hu with rfl | hu
  ·omega
  ·have := ih hu; omega
end Go.Proofs.YthhgobiaecehbaaDoor.F
end
section
namespace Go.Proofs.YthhgobiaecehbaaDoor.F
open Go.RowKit Go.Proofs.YthhgobiaecehbaaDoorW.PrintWords Go.Proofs.YthhgobiaecehbaaDoorW.PrintLast Go.Proofs.YthhgobiaecehbaaDoorW.PrintMore
set_option linter.unusedVariables false
set_option linter.unusedSimpArgs false
theorem few10_row (l : List (List Sp)) (hl : l.length ≤ maxLen) (i : Nat) (hi : i < l.length) (hi8 : i ≤ 8) (x3 : List (List Sp)) (h3 : x3.length ≤ 8) (y : List Sp) (hy : rd_L3 l (i : Int) = y) (hyl : y.length ≤ maxLen) {res : List (List Sp)}
  (hn : Ev (fun k => epitomelaw10_few.l0 k l (x3 ++ [fewS y]) ((i + 1 : Nat) : Int)) res) :
  ∀ (r pre : List Sp), y = pre ++ r → pre.length ≤ 20 → Ev (fun k => epitomelaw10_few.l1 k l x3 (i : Int) (pre.map (cutS 60)) (pre.length : Int)) res
 | [], pre, h, hp => by
  have hm : l.length ≤ 9223372036854775807 := hl
  rw [List.append_nil] at h
  subst h
  refine Ev.step (f := fun k => epitomelaw10_few.l0 k l (x3 ++ [fewS y]) ((i + 1 : Nat) : Int)) (fun k => ?_) hn
  rw [epitomelaw10_few.l1, if_pos (by omega), if_pos (by omega), hy, if_neg (by omega), if_pos (by omega), w64_succ _ (by omega)]
  unfold fewS
  rw [List.take_of_length_le hp]
 | s :: r, pre, h, hp => by
  have hm : l.length ≤ 9223372036854775807 := hl
  have hll : pre.length + (r.length + 1) = y.length := by rw [h]; simp
  by_cases h20 : pre.length = 20
  ·refine Ev.step (f := fun k => epitomelaw10_few.l0 k l (x3 ++ [fewS y]) ((i + 1 : Nat) : Int)) (fun k => ?_) hn
   rw [epitomelaw10_few.l1, if_pos (by omega), if_pos (by omega), hy, if_pos (by omega), if_neg (by omega), if_pos (by omega), w64_succ _ (by omega)]
   unfold fewS
   rw [h, ← h20, List.take_left]
  ·have hrd : rd_T41 y (pre.length : Int) = s := by rw [h]; exact rdS_at rfl
   have h1 := mn_le (s.f2.size : Int) 60
   have ih := few10_row l hl i hi hi8 x3 h3 y hy hyl hn r (pre ++ [s]) (by simp [h]) (by simp; omega)
   refine Ev.step (f := fun k => epitomelaw10_few.l1 k l x3 (i : Int) ((pre ++ [s]).map (cutS 60)) (((pre ++ [s]).length : Nat) : Int)) (fun k => ?_) ih
   rw [epitomelaw10_few.l1, if_pos (by omega), if_pos (by omega), hy, if_pos (by omega), if_pos (by omega), if_pos (by omega), hrd, if_pos (by omega), if_pos (by omega), if_pos (by rw [List.length_map]; omega), w64_succ _ (by omega)]
   simp [cutS, cutT]
theorem few10_rows (l : List (List Sp)) (hl : l.length ≤ maxLen) (hw : ∀ y ∈ l, y.length ≤ maxLen) : ∀ (r pre : List (List Sp)), l = pre ++ r → pre.length ≤ 8 →
  Ev (fun k => epitomelaw10_few.l0 k l (pre.map fewS) (pre.length : Int)) ((l.take 8).map fewS)
 | [], pre, h, hp => by
  rw [List.append_nil] at h
  subst h
  refine Ev.step (f := fun k => epitomelaw10_few.j1 k l (l.map fewS) (l.length : Int) false) (fun k => by rw [epitomelaw10_few.l0, if_neg (by omega)]) ?_
  refine Ev.step (f := fun _ => some ((l.take 8).map fewS)) (fun k => ?_) (Ev.now _)
  rw [epitomelaw10_few.j1, if_neg (by simp), List.take_of_length_le hp]
 | y :: r, pre, h, hp => by
  have hll : pre.length + (r.length + 1) = l.length := by rw [h]; simp
  by_cases h8 : pre.length = 8
  ·refine Ev.step (f := fun k => epitomelaw10_few.j1 k l (pre.map fewS) (pre.length : Int) false) (fun k => by rw [epitomelaw10_few.l0, if_pos (by omega), decide_eq_false (by omega)]) ?_
   refine Ev.step (f := fun _ => some ((l.take 8).map fewS)) (fun k => ?_) (Ev.now _)
   rw [epitomelaw10_few.j1, if_neg (by simp), h, ← h8, List.take_left]
  ·have hy : rd_L3 l (pre.length : Int) = y := by
    unfold rd_L3
    rw [h]
    simp
   have hyl := hw y (by rw [h]; simp)
   have ih := few10_rows l hl hw r (pre ++ [y]) (by simp [h]) (by simp; omega)
   rw [List.map_append, List.length_append] at ih
   refine Ev.step (f := fun k => epitomelaw10_few.j1 k l (pre.map fewS) (pre.length : Int) true) (fun k => by rw [epitomelaw10_few.l0, if_pos (by omega), decide_eq_true (by omega)]) ?_
   refine Ev.step (f := fun k => epitomelaw10_few.l1 k l (pre.map fewS) (pre.length : Int) [] 0) (fun k => by rw [epitomelaw10_few.j1, if_pos rfl]) ?_
   exact few10_row l hl pre.length (by omega) hp (pre.map fewS) (by rw [List.length_map]; exact hp) y hy hyl ih y [] rfl (by simp)
theorem few10_is (l : List (List Sp)) (hl : l.length ≤ maxLen) (hw : ∀ y ∈ l, y.length ≤ maxLen) : Ev (fun k => epitomelaw10_few.f k l) ((l.take 8).map fewS) := by
 unfold epitomelaw10_few.f
 exact few10_rows l hl hw l [] rfl (by simp)
end Go.Proofs.YthhgobiaecehbaaDoor.F
end
section
namespace Go.Proofs.YthhgobiaecehbaaDoor.F
open Go.RowKit Go.Proofs.YthhgobiaecehbaaDoorW.PrintWords Go.Proofs.YthhgobiaecehbaaDoorW.PrintLast Go.Proofs.YthhgobiaecehbaaDoorW.PrintMore
set_option linter.unusedVariables false
set_option linter.unusedSimpArgs false
theorem sizeS_cout : ∀ us : List Un, sizeS (us.map Un.sp) ≤ 4 * (us.map Un.cout).sum
 | [] => Nat.zero_le _
 | u :: us => by
  have h2 := sizeS_cout us
  have h1 : u.sp.f2.size ≤ 4 * u.cout := by
   cases u with
   | keep n => exact Nat.zero_le _
   | put l => exact (encT_size l).2
   | drop n => exact Nat.zero_le _
  unfold sizeS at h2 ⊢
  simp only [List.map_cons, List.sum_cons]
  omega
theorem normalOk_is {us : List Un} (h : Ok us) : Ev (fun k => normal_Of.f k (us.map Un.sp)) ((canon (exU us)).map Un.sp) := by
 have h1 := h.len
 have h2 := h.cin
 have h3 := h.cout
 have := sizeS_cout us
 rw [← norm_ex us (by omega)]
 exact normal_is _ (by rw [List.length_map]; omega) (by omega)
theorem sz_sum : ∀ {us : List Un} {u : Un}, u ∈ us → szU u ≤ (us.map Un.cin).sum + (us.map Un.cout).sum := by
 intro us
 induction us with
 | nil => intro u h; cases h
 | cons v us ih =>
  intro u h
  simp only [List.map_cons, List.sum_cons]
  rcases List.mem_cons.1 h with rfl | h
  ·cases u with
   | keep n => show n ≤ n + _ + _; omega
   | put l => show l.length ≤ _ + (l.length + _); omega
   | drop n => show n ≤ n + _ + _; omega
  ·have := ih h
   omega
theorem canon_small {us : List Un} (h : Ok us) (hc : (us.map Un.cout).sum ≤ 4194304) : Small (canon (exU us)) := by
 refine ⟨ok_canon _ (runesU_ex us h.ok), fun u hu => ?_⟩
 have := sz_sum hu
 have h1 := canon_in (exU us)
 have h2 := canon_out (exU us)
 have h3 := cinU_ex us
 have h4 := coutU_ex us
 have h5 := h.cin
 omega
theorem newR_is {us : List Un} (h : Ok us) (hc : (us.map Un.cout).sum ≤ 4194304) : ∃ t, Ev (fun k => newR k (us.map Un.sp)) ((canon (exU us)).map Un.sp, t) ∧ RdU (canon (exU us)) ((canon (exU us)).map Un.sp) t := by
 obtain ⟨t, e, hr⟩ := load_un (canon_small h hc)
 refine ⟨t, ?_, hr⟩
 unfold newR
 exact Ev.bind (normalOk_is h) (ev_some e (Ev.now _))
theorem canon_len_sum {us : List Un} (h : Ok us) (hc : (us.map Un.cout).sum ≤ 4194304) : (canon (exU us)).length ≤ 5242880 := by
 have h0 := canon_length (exU us)
 have h1 := length_two (exU us)
 have h3 := cinU_ex us
 have h4 := coutU_ex us
 have h5 := h.cin
 omega
theorem compose_is {us vs : List Un} (hu : Ok us) (hv : Ok vs) (h1 : (us.map Un.cout).sum ≤ 4194304) (h2 : (vs.map Un.cout).sum ≤ 4194304) (hc : (us.map Un.cout).sum = (vs.map Un.cin).sum) :
  Ev (fun k => compose_Of.f k (us.map Un.sp) (vs.map Un.sp)) ((canon (compU (exU us) (exU vs))).map Un.sp, 0) := by
 obtain ⟨tx, ex, rx⟩ := newR_is hu h1
 obtain ⟨ty, ey, ry⟩ := newR_is hv h2
 have l1 := canon_len_sum hu h1
 have l2 := canon_len_sum hv h2
 have hcu : coutU (exU us) = cinU (exU vs) := by rw [coutU_ex, cinU_ex]; exact hc
 have eL := composeL_is ((canon (exU us)).length + (canon (exU vs)).length) _ _ _ tx _ ty [] (canon_small hu h1) (canon_small hv h2) (canon_full _) (canon_full _) (Nat.le_refl _) (by simp only [List.length_nil]; omega) rx ry
 obtain ⟨ce, lenC⟩ := compUn_ex ((canon (exU us)).length + (canon (exU vs)).length) _ _ (canon_full (exU us)) (canon_full (exU vs)) (Nat.le_refl _) (by rw [ex_canon, ex_canon]; exact hcu)
 rw [ex_canon, ex_canon] at ce
 obtain ⟨s1, s2⟩ := comp_sizes (exU us) (exU vs) hcu
 generalize compUn ((canon (exU us)).length + (canon (exU vs)).length) (canon (exU us)) (canon (exU vs)) = out at eL ce lenC
 have o1 := cinU_ex out
 have o2 := coutU_ex out
 rw [ce, s1, cinU_ex us] at o1
 rw [ce, s2, coutU_ex vs] at o2
 have hz := sizeS_cout out
 have hci := hu.cin
 unfold compose_Of.f
 refine Ev.bind (opMay_is hu) (ev_if_pos rfl (Ev.bind (opMay_is hv) (ev_if_pos rfl ?_)))
 refine Ev.bind (opOut_is hu) (Ev.bind (opIn_is hv) (ev_if_pos (by omega) ?_))
 refine Ev.bind ex (Ev.bind ey ?_)
 refine Ev.bind (Ev.of (fun k => composeL.mono k _ _ _ _ _) eL) ?_
 rw [List.nil_append]
 have en := normal_is (out.map Un.sp) (by rw [List.length_map]; omega) (by omega)
 rw [norm_ex out (by omega), ce] at en
 exact Ev.bind en (Ev.now _)
theorem composeOdd_is {us vs : List Un} (hu : Ok us) (hv : Ok vs) (hc : (us.map Un.cout).sum ≠ (vs.map Un.cin).sum) :
  Ev (fun k => compose_Of.f k (us.map Un.sp) (vs.map Un.sp)) ([], 5) := by
 unfold compose_Of.f
 refine Ev.bind (opMay_is hu) (ev_if_pos rfl (Ev.bind (opMay_is hv) (ev_if_pos rfl ?_)))
 exact Ev.bind (opOut_is hu) (Ev.bind (opIn_is hv) (ev_if_neg (by omega) (Ev.now _)))
end Go.Proofs.YthhgobiaecehbaaDoor.F
end
section
namespace Go.Proofs.YthhgobiaecehbaaDoor.F
open Go.RowKit Go.Proofs.YthhgobiaecehbaaDoorW.PrintWords Go.Proofs.YthhgobiaecehbaaDoorW.PrintLast Go.Proofs.YthhgobiaecehbaaDoorW.PrintMore
set_option linter.unusedVariables false
set_option linter.unusedSimpArgs false
def keepU (n : Nat) : List Un := if n = 0 then [] else [.keep n]
theorem keepU_ex (n : Nat) : exU (keepU n) = List.replicate n .k := by
 unfold keepU
 split
 ·next h => subst h; rfl
 ·simp [exU, Un.ex]
theorem opKeep_is (n : Nat) (h : n ≤ 1048576) : Ev (fun k => op_Keep.f k (n : Int)) ((keepU n).map Un.sp, 0) := by
 unfold op_Keep.f
 refine ev_if_neg (by omega) ?_
 rw [decide_eq_false (by omega)]
 refine Ev.step (f := fun _ => some ((keepU n).map Un.sp, 0)) (fun k => ?_) (Ev.now _)
 rw [op_Keep.j0, if_neg (by simp)]
 unfold keepU
 by_cases h0 : n = 0
 ·subst h0
  rfl
 ·rw [if_neg (by omega), if_neg h0]
  rfl
end Go.Proofs.YthhgobiaecehbaaDoor.F
end
section
namespace Go.Proofs.YthhgobiaecehbaaDoor.F
open Go.RowKit Go.Proofs.YthhgobiaecehbaaDoorW.PrintWords Go.Proofs.YthhgobiaecehbaaDoorW.PrintLast Go.Proofs.YthhgobiaecehbaaDoorW.PrintMore
set_option linter.unusedVariables false
set_option linter.unusedSimpArgs false
theorem canon_keeps (n : Nat) : canon (List.replicate n .k) = keepU n := by
 rw [← keepU_ex]
 unfold keepU
 split
 ·rfl
 ·next h => rw [show exU [Un.keep n] = (Un.keep n).ex by simp [exU], canon_ex (by simp [fullU]; omega)]
end Go.Proofs.YthhgobiaecehbaaDoor.F
end
section
namespace Go.Proofs.YthhgobiaecehbaaDoor.F
open Go.RowKit Go.Proofs.YthhgobiaecehbaaDoorW.PrintWords Go.Proofs.YthhgobiaecehbaaDoorW.PrintLast Go.Proofs.YthhgobiaecehbaaDoorW.PrintMore
set_option linter.unusedVariables false
set_option linter.unusedSimpArgs false
def fuseU : List U → List (List U) → List U
 | x, [] => x
 | x, y :: r => fuseU (compU x y) r
def exR (w : List (List Un)) : List (List U) := w.map exU
theorem fuse_all : ∀ (w : List (List Un)) (x : List U), RunesU x → cinU x ≤ 1048576 → coutU x + 78 * w.length ≤ 1048576 → ChainOk (coutU x) w →
  Ev (fun k => fuseL k ((canon x).map Un.sp) (rowsS w)) ((canon (fuseU x (exR w))).map Un.sp, 0) ∧ RunesU (fuseU x (exR w)) ∧ cinU (fuseU x (exR w)) = cinU x ∧ coutU (fuseU x (exR w)) ≤ coutU x + 78 * w.length
 | [], x, hr, h1, h2, _ => ⟨Ev.now _, hr, rfl, Nat.le_add_right _ _⟩
 | us :: w, x, hr, h1, h2, ⟨fu, hc⟩ => by
  simp only [List.length_cons] at h2
  have hci := fu.cin
  have hcu := fu.cinU
  have hco := fu.cout
  have hou := fu.coutU
  obtain ⟨s1, s2⟩ := comp_sizes x (exU us) (by omega)
  have ci := canon_in x
  have co := canon_out x
  have e := compose_is (canon_ok hr h1 (by omega)) fu.ok (by omega) (by omega) (by omega)
  rw [ex_canon] at e
  obtain ⟨e2, r2, i2, o2⟩ := fuse_all w (compU x (exU us)) (comp_runes _ _ hr fu.runes) (by omega) (by omega) (by rw [s2, hou]; exact hc)
  refine ⟨?_, r2, by rw [show exR (us :: w) = exU us :: exR w from rfl, fuseU, i2, s1], by rw [show exR (us :: w) = exU us :: exR w from rfl, fuseU]; simp only [List.length_cons]; omega⟩
  rw [show exR (us :: w) = exU us :: exR w from rfl, fuseU, show rowsS (us :: w) = us.map Un.sp :: rowsS w from rfl]
  show Ev (fun k => (compose_Of.f k ((canon x).map Un.sp) (us.map Un.sp)).bind fun z => if z.2 = 0 then fuseL k z.1 (rowsS w) else some ([], z.2)) _
  exact Ev.bind e (ev_if_pos rfl e2)
theorem fuse_is {w : List (List Un)} {n : Nat} (h : ChainOk n w) (hn : n + 78 * w.length ≤ 1048576) :
  Ev (fun k => fuse_Of.f k (n : Int) (rowsS w)) ((canon (fuseU (List.replicate n .k) (exR w))).map Un.sp, 0) ∧ RunesU (fuseU (List.replicate n .k) (exR w)) ∧ cinU (fuseU (List.replicate n .k) (exR w)) = n ∧ coutU (fuseU (List.replicate n .k) (exR w)) ≤ n + 78 * w.length := by
 have c1 : cinU (List.replicate n U.k) = n := by have := cinU_un (.keep n); exact this
 have c2 : coutU (List.replicate n U.k) = n := by have := coutU_un (.keep n); exact this
 have hr : RunesU (List.replicate n U.k) := fun r hr => by have := List.eq_of_mem_replicate hr; cases this
 obtain ⟨e, r, i, o⟩ := fuse_all w (List.replicate n .k) hr (by omega) (by omega) (by rw [c2]; exact h)
 rw [canon_keeps] at e
 refine ⟨?_, r, by omega, by omega⟩
 unfold fuse_Of.f
 exact Ev.bind (opKeep_is n (by omega)) (ev_if_pos rfl e)
end Go.Proofs.YthhgobiaecehbaaDoor.F
end
section
namespace Go.Proofs.YthhgobiaecehbaaDoor.F
open Go.RowKit Go.Proofs.YthhgobiaecehbaaDoorW.PrintWords Go.Proofs.YthhgobiaecehbaaDoorW.PrintLast Go.Proofs.YthhgobiaecehbaaDoorW.PrintMore
set_option linter.unusedVariables false
set_option linter.unusedSimpArgs false
theorem putsU_app2 (a b : List U) : putsU (a ++ b) = putsU a + putsU b := by
 induction a with
 | nil => simp [putsU]
 | cons u a ih => cases u <;> simp only [List.cons_append, putsU, ih] <;> omega
theorem putsU_put2 (l : List Int) : putsU (l.map U.p) = l.length := by
 induction l with
 | nil => rfl
 | cons a l ih => simp only [List.map_cons, putsU, List.length_cons, ih]
theorem putsU_k2 (n : Nat) : putsU (List.replicate n U.k) = 0 := by
 induction n with
 | zero => rfl
 | succ n ih => rw [List.replicate_succ]; exact ih
theorem putsU_d2 (n : Nat) : putsU (List.replicate n U.d) = 0 := by
 induction n with
 | zero => rfl
 | succ n ih => rw [List.replicate_succ]; exact ih
theorem putsU_cout (x : List U) : putsU x ≤ coutU x := by
 induction x with
 | nil => exact Nat.le_refl _
 | cons u x ih => cases u <;> simp only [putsU, coutU] <;> omega
end Go.Proofs.YthhgobiaecehbaaDoor.F
end
section
namespace Go.Proofs.YthhgobiaecehbaaDoor.F
open Go.RowKit Go.Proofs.YthhgobiaecehbaaDoorW.PrintWords Go.Proofs.YthhgobiaecehbaaDoorW.PrintLast Go.Proofs.YthhgobiaecehbaaDoorW.PrintMore
set_option linter.unusedVariables false
set_option linter.unusedSimpArgs false
theorem keeps_in (n : Nat) : cinU (List.replicate n U.k) = n := cinU_un (.keep n)
theorem keeps_out (n : Nat) : coutU (List.replicate n U.k) = n := coutU_un (.keep n)
theorem keeps_runes (n : Nat) : RunesU (List.replicate n U.k) := fun r hr => by have := List.eq_of_mem_replicate hr; cases this
end Go.Proofs.YthhgobiaecehbaaDoor.F
end
section
namespace Go.Proofs.YthhgobiaecehbaaDoor.F
open Go.RowKit Go.Proofs.YthhgobiaecehbaaDoorW.PrintWords Go.Proofs.YthhgobiaecehbaaDoorW.PrintLast Go.Proofs.YthhgobiaecehbaaDoorW.PrintMore
set_option linter.unusedVariables false
set_option linter.unusedSimpArgs false
theorem next_odd {n : Nat} {us : List Un} (hu : Ok us) (h : (us.map Un.cin).sum ≠ n) : Ev (fun k => fuse_next.f k (n : Int) (us.map Un.sp)) (0, 5) := by
 unfold fuse_next.f
 exact Ev.bind (opMay_is hu) (ev_if_pos rfl (Ev.bind (opIn_is hu) (ev_if_neg (by omega) (Ev.now _))))
theorem fuseL_odd {x us : List Un} {rest : List (List Sp)} (hx : Ok x) (hu : Ok us) (h : (x.map Un.cout).sum ≠ (us.map Un.cin).sum) : Ev (fun k => fuseL k (x.map Un.sp) (us.map Un.sp :: rest)) ([], 5) := by
 show Ev (fun k => (compose_Of.f k (x.map Un.sp) (us.map Un.sp)).bind fun z => if z.2 = 0 then fuseL k z.1 rest else some ([], z.2)) _
 exact Ev.bind (composeOdd_is hx hu h) (ev_if_neg (by decide) (Ev.now _))
theorem fuseC_odd {n : Nat} {us : List Un} {rest : List (List Sp)} (hu : Ok us) (h : (us.map Un.cin).sum ≠ n) : Ev (fun k => fuseC k (n : Int) (us.map Un.sp :: rest)) (0, 5) := by
 show Ev (fun k => (fuse_next.f k (n : Int) (us.map Un.sp)).bind fun z => if z.2 = 0 then fuseC k z.1 rest else some (0, z.2)) _
 exact Ev.bind (next_odd hu h) (ev_if_neg (by decide) (Ev.now _))
end Go.Proofs.YthhgobiaecehbaaDoor.F
end
section
namespace Go.Proofs.YthhgobiaecehbaaDoor.F
open Go.RowKit Go.Proofs.YthhgobiaecehbaaDoorW.PrintWords Go.Proofs.YthhgobiaecehbaaDoorW.PrintLast Go.Proofs.YthhgobiaecehbaaDoorW.PrintMore
set_option linter.unusedVariables false
set_option linter.unusedSimpArgs false
theorem full_cin {w : Un} (h1 : fullU w = true) (h2 : w.sp.f0 ≠ 2) : 0 < w.cin := by
 cases w with
 | put q => exact (h2 rfl).elim
 | keep b => simp [fullU] at h1; simp only [Un.cin]; omega
 | drop b => simp [fullU] at h1; simp only [Un.cin]; omega
end Go.Proofs.YthhgobiaecehbaaDoor.F
end
section
namespace Go.Proofs.YthhgobiaecehbaaDoor.F
open Go.RowKit Go.Proofs.YthhgobiaecehbaaDoorW.PrintWords Go.Proofs.YthhgobiaecehbaaDoorW.PrintLast Go.Proofs.YthhgobiaecehbaaDoorW.PrintMore
set_option linter.unusedVariables false
set_option linter.unusedSimpArgs false
theorem cut_bytes (l : List Int) (a b : Nat) (hab : a ≤ b) (_ : b ≤ l.length) : (encT l).extract (encT (l.take a)).size (encT (l.take b)).size = encT ((l.take b).drop a) ∧ (encT (l.take a)).size ≤ (encT (l.take b)).size ∧ (encT (l.take b)).size ≤ (encT l).size := by
 have e : l = l.take a ++ ((l.take b).drop a ++ l.drop b) := by
  rw [← List.append_assoc]
  have h1 : l.take a ++ (l.take b).drop a = l.take b := by
   have := List.take_append_drop a (l.take b)
   rw [List.take_take, Nat.min_eq_left hab] at this
   exact this
  rw [h1, List.take_append_drop]
 have e2 : l.take b = l.take a ++ (l.take b).drop a := by
  have := List.take_append_drop a (l.take b)
  rw [List.take_take, Nat.min_eq_left hab] at this
  exact this.symm
 have hx := extract_enc (l.take a) ((l.take b).drop a) (l.drop b)
 rw [← e, ← e2] at hx
 refine ⟨hx, ?_, ?_⟩
 ·rw [e2, encT_len_take]
  omega
 ·have := List.take_append_drop b l
  conv => rhs; rw [← this]
  rw [encT_len_take]
  omega
theorem refCut_enc (l : List Int) (h : Runes l) (hl : l.length ≤ 1099511627776) (a b : Nat) (hab : a ≤ b) (hb : b ≤ l.length) : Ev (fun k => epitomeref01_Cut.f k (encT l) (a : Int) (b : Int)) (encT ((l.take b).drop a), 0) := by
 obtain ⟨c1, c2, c3⟩ := cut_bytes l a b hab hb
 have o1 := offs_at l a (by omega)
 have o2 := offs_at l b hb
 have ol := offs_length l
 have hbig := big_enc hl
 have ew : wrap64 (((offs l).length : Int) - 1) = (l.length : Int) := by rw [w64 (by omega) (by omega)]; omega
 unfold epitomeref01_Cut.f
 refine Ev.bind (starts_enc l h hl) ?_
 simp only [ew, o1, o2]
 refine ev_if_pos (by first | rfl | trivial) (ev_if_neg (by omega) (ev_if_neg (by omega) (ev_if_neg (by omega) (ev_if_pos (by omega) (ev_if_pos (by omega) (ev_if_pos (by omega) (ev_if_pos (by omega) (ev_if_pos (by omega) (ev_if_pos (by omega) (ev_if_pos (by omega) ?_))))))))))
 rw [Int.toNat_natCast, Int.toNat_natCast, c1]
 exact Ev.now _
theorem refSize_is (u : Un) (h : u.ok) (h2 : szU u ≤ 1099511627776) : Ev (fun k => epitomeref09_size.f k u.sp.f0 u.sp.f1 u.sp.f2) ((szU u : Nat) : Int) := by
 have c0 : Ev (fun k => epitomeref01_Count.f k (⟨#[]⟩ : ByteArray)) 0 := by
  have := refCount_enc [] Runes.nil (by simp)
  rw [encT_nil] at this
  simpa using this
 unfold epitomeref09_size.f
 refine ev_some (refSpanIn_is u) ?_
 cases u with
 | keep n =>
  have h3 : n ≤ 1099511627776 := h2
  refine Ev.bind c0 ?_
  rw [show ((Un.keep n).cin : Int) + 0 = (n : Int) by show (n : Int) + 0 = n; omega, w64 (by omega) (by omega)]
  exact Ev.now _
 | drop n =>
  have h3 : n ≤ 1099511627776 := h2
  refine Ev.bind c0 ?_
  rw [show ((Un.drop n).cin : Int) + 0 = (n : Int) by show (n : Int) + 0 = n; omega, w64 (by omega) (by omega)]
  exact Ev.now _
 | put l =>
  have h3 : l.length ≤ 1099511627776 := h2
  refine Ev.bind (refCount_enc l h h3) ?_
  rw [show ((Un.put l).cin : Int) + (l.length : Int) = (l.length : Int) by show ((0 : Nat) : Int) + _ = _; omega, w64 (by omega) (by omega)]
  exact Ev.now _
theorem first_un (u : Un) (h : u.ok) (hz : szU u ≤ 1099511627776) (m : Nat) (hm : m ≤ szU u) : Ev (fun k => epitomeref09_First.f k u.sp.f0 u.sp.f1 u.sp.f2 (m : Int)) ((hdU u m).sp.f0, (hdU u m).sp.f1, (hdU u m).sp.f2, (tlU u m).sp.f0, (tlU u m).sp.f1, (tlU u m).sp.f2) := by
 unfold epitomeref09_First.f
 cases u with
 | keep n =>
  have h3 : n ≤ 1099511627776 := hz
  have h4 : m ≤ n := hm
  refine ev_if_neg (by simp [Un.sp]) ?_
  rw [show (Un.keep n).sp.f1 - (m : Int) = ((n - m : Nat) : Int) by show (n : Int) - (m : Int) = _; omega, w64 (by omega) (by omega)]
  exact Ev.now _
 | drop n =>
  have h3 : n ≤ 1099511627776 := hz
  have h4 : m ≤ n := hm
  refine ev_if_neg (by simp [Un.sp]) ?_
  rw [show (Un.drop n).sp.f1 - (m : Int) = ((n - m : Nat) : Int) by show (n : Int) - (m : Int) = _; omega, w64 (by omega) (by omega)]
  exact Ev.now _
 | put l =>
  have h3 : l.length ≤ 1099511627776 := hz
  have h4 : m ≤ l.length := hm
  have c1 := refCut_enc l h h3 0 m (Nat.zero_le _) h4
  have c2 := refCut_enc l h h3 m l.length h4 (Nat.le_refl _)
  rw [List.drop_zero] at c1
  rw [List.take_length] at c2
  exact ev_if_pos rfl (Ev.bind c1 (Ev.bind (refCount_enc l h h3) (Ev.bind c2 (Ev.now _))))
theorem full_sz (u : Un) : fullU u = decide (szU u ≠ 0) := by
 cases u with
 | keep n => show (n != 0) = decide (n ≠ 0); by_cases h : n = 0 <;> simp [h]
 | drop n => show (n != 0) = decide (n ≠ 0); by_cases h : n = 0 <;> simp [h]
 | put l => cases l <;> simp [fullU, szU]
end Go.Proofs.YthhgobiaecehbaaDoor.F
end
section
namespace Go.Proofs.YthhgobiaecehbaaDoor.F
open Go.RowKit Go.Proofs.YthhgobiaecehbaaDoorW.PrintWords Go.Proofs.YthhgobiaecehbaaDoorW.PrintLast Go.Proofs.YthhgobiaecehbaaDoorW.PrintMore
set_option linter.unusedVariables false
set_option linter.unusedSimpArgs false
theorem refNorm_loop (l : List Sp) (hl : l.length < 4398046511104) : ∀ (r pre : List Sp), l = pre ++ r →
  (sizeS r ≤ 9223372036854775807 → Ev (fun k => epitomeref05_Of.l0 k l [] (pre.length : Int)) (norm r)) ∧
  ∀ (q : List Sp) (cur : Sp), q.length + 1 ≤ pre.length → cur.f2.size + sizeS r ≤ 9223372036854775807 →
   Ev (fun k => epitomeref05_Of.l0 k l (q ++ [cur]) (pre.length : Int)) (q ++ runs cur (r.filter (fun s => !emptyS s)))
 | [], pre, h => by
  constructor
  ·intro _
   refine Ev.step (f := fun _ => some []) (fun k => ?_) (Ev.now _)
   rw [epitomeref05_Of.l0, if_neg (by subst h; simp)]
  ·intro q cur hq hs
   refine Ev.step (f := fun _ => some (q ++ [cur])) (fun k => ?_) (Ev.now _)
   rw [epitomeref05_Of.l0, if_neg (by subst h; simp)]
 | t :: r, pre, h => by
  have hlt : (pre.length : Int) < (l.length : Int) := by subst h; simp <;> omega
  have hrd : rd_T41 l (pre.length : Int) = t := by rw [h]; exact rdS_at rfl
  obtain ⟨n1, n2⟩ := refNorm_loop l hl r (pre ++ [t]) (by simp [h])
  have w1 : wrap64 ((pre.length : Int) + 1) = ((pre ++ [t]).length : Int) := by rw [w64 (by omega) (by omega)]; simp
  have hsz : sizeS (t :: r) = t.f2.size + sizeS r := by simp [sizeS]
  have head : ∀ x3 : List Sp, ∀ w, Ev (fun k => epitomeref05_Of.j1 k l x3 (pre.length : Int) (emptyS t) t.f0 t.f1 t.f2) w → Ev (fun k => epitomeref05_Of.l0 k l x3 (pre.length : Int)) w := by
   intro x3 w hw
   refine Ev.step (f := fun k => epitomeref05_Of.j1 k l x3 (pre.length : Int) (emptyS t) t.f0 t.f1 t.f2) (fun k => ?_) hw
   rw [epitomeref05_Of.l0, if_pos hlt, if_pos (by omega), hrd]
   by_cases h1 : t.f1 = 0
   ·rw [if_pos h1]; simp [emptyS, h1]
   ·rw [if_neg h1]; simp [emptyS, h1]
  constructor
  ·intro hs
   refine head _ _ ?_
   cases he : emptyS t with
   | true =>
    refine Ev.step (f := fun k => epitomeref05_Of.l0 k l [] ((pre ++ [t]).length : Int)) (fun k => by rw [epitomeref05_Of.j1, if_pos rfl, w1]) ?_
    have : norm (t :: r) = norm r := by simp [norm, he]
    rw [this]
    exact n1 (by omega)
   | false =>
    refine Ev.step (f := fun k => epitomeref05_Of.l0 k l ([] ++ [t]) ((pre ++ [t]).length : Int)) (fun k => by rw [epitomeref05_Of.j1, if_neg (by simp), if_neg (by simp), if_pos (by simp), w1]) ?_
    have : norm (t :: r) = [] ++ runs t (r.filter (fun s => !emptyS s)) := by simp [norm, he, mergeS]
    rw [this]
    exact n2 [] t (by simp) (by omega)
  ·intro q cur hq hs
   refine head _ _ ?_
   cases he : emptyS t with
   | true =>
    refine Ev.step (f := fun k => epitomeref05_Of.l0 k l (q ++ [cur]) ((pre ++ [t]).length : Int)) (fun k => by rw [epitomeref05_Of.j1, if_pos rfl, w1]) ?_
    have : (t :: r).filter (fun s => !emptyS s) = r.filter (fun s => !emptyS s) := by simp [he]
    rw [this]
    exact n2 q cur (by simp; omega) (by omega)
   | false =>
    have hf : (t :: r).filter (fun s => !emptyS s) = t :: r.filter (fun s => !emptyS s) := by simp [he]
    have hqc : (q ++ [cur]).length = q.length + 1 := by simp
    have hq1 : wrap64 (((q ++ [cur]).length : Int) - 1) = q.length := by rw [w64 (by omega) (by omega)]; simp
    have hcur : rd_T41 (q ++ [cur]) (q.length : Int) = cur := rdS_at rfl
    have hql : q.length + 1 ≤ l.length := by omega
    rw [hf]
    by_cases hk : cur.f0 = t.f0
    ·refine Ev.step (f := fun k => epitomeref05_Of.l0 k l (q ++ [joinS cur t]) ((pre ++ [t]).length : Int)) (fun k => ?_) ?_
     ·rw [epitomeref05_Of.j1, if_neg (by simp), if_pos (by omega), hq1, if_pos (by omega), if_pos (by omega), hcur, if_pos hk, Option.bind_some, setS_at rfl]
      simp only [rdS_at (c := (⟨cur.f0, wrap64 (cur.f1 + t.f1), cur.f2⟩ : Sp)) (r := []) (pre := q) rfl]
      rw [if_pos (by omega), setS_at rfl, w1]
      rfl
     ·rw [runs, if_pos hk.symm]
      exact n2 q (joinS cur t) (by simp; omega) (by simp [joinS, ByteArray.size_append]; omega)
    ·refine Ev.step (f := fun k => epitomeref05_Of.l0 k l ((q ++ [cur]) ++ [t]) ((pre ++ [t]).length : Int)) (fun k => ?_) ?_
     ·rw [epitomeref05_Of.j1, if_neg (by simp), if_pos (by omega), hq1, if_pos (by omega), if_pos (by omega), hcur, if_neg hk, if_pos (by simp; omega), w1]
     ·rw [runs, if_neg (fun h => hk h.symm)]
      have := n2 (q ++ [cur]) t (by simp; omega) (by omega)
      simpa using this
theorem refNorm_is (l : List Sp) (hl : l.length < 4398046511104) (hs : sizeS l ≤ 9223372036854775807) : Ev (fun k => epitomeref05_Of.f k l) (norm l) := by
 unfold epitomeref05_Of.f
 exact (refNorm_loop l hl l [] rfl).1 hs
end Go.Proofs.YthhgobiaecehbaaDoor.F
end
section
namespace Go.Proofs.YthhgobiaecehbaaDoor.F
open Go.RowKit Go.Proofs.YthhgobiaecehbaaDoorW.PrintWords Go.Proofs.YthhgobiaecehbaaDoorW.PrintLast Go.Proofs.YthhgobiaecehbaaDoorW.PrintMore
set_option linter.unusedVariables false
set_option linter.unusedSimpArgs false
theorem refComp_in (X Y out : List Sp) (h : 0 < X.length ∨ 0 < Y.length) {r : List Sp × Int} (hr : Ev (fun k => epitomeref09_Of.j1 k X Y out true) r) : Ev (fun k => epitomeref09_Of.l0 k X Y out) r := by
 refine Ev.step (f := fun k => epitomeref09_Of.j1 k X Y out true) (fun k => ?_) hr
 rw [epitomeref09_Of.l0]
 by_cases hx : 0 < X.length
 ·rw [if_pos (by omega)]
 ·rw [if_neg (by omega), decide_eq_true (by omega)]
theorem refComp_j2f (X : List Sp) (Y out : List Sp) (h : ∀ s r, Y = s :: r → s.f0 ≠ 2) {r : List Sp × Int} (hr : Ev (fun k => epitomeref09_Of.j2 k X Y out false) r) : Ev (fun k => epitomeref09_Of.j1 k X Y out true) r := by
 refine Ev.step (f := fun k => epitomeref09_Of.j2 k X Y out false) (fun k => ?_) hr
 rw [epitomeref09_Of.j1, if_pos rfl]
 rcases Y with _ | ⟨s, Y⟩
 ·rw [if_neg (by simp)]
 ·have e : ((rd_T41 (s :: Y) 0).f0 == 2) = false := by
   have := h s Y rfl
   show (s.f0 == 2) = false
   simp [this]
  rw [if_pos (by (first | (simp; done) | (simp; omega))), if_pos (by (first | (simp; done) | (simp; omega))), e]
theorem refComp_end (out : List Sp) (ho : out.length ≤ 1099511627776) (hs : sizeS out ≤ 9223372036854775807) : Ev (fun k => epitomeref09_Of.l0 k [] [] out) (norm out, 0) := by
 refine Ev.step (f := fun k => epitomeref09_Of.j1 k [] [] out false) (fun k => by rw [epitomeref09_Of.l0, if_neg (by simp), decide_eq_false (by simp)]) ?_
 refine Ev.step (f := fun k => (epitomeref05_Of.f k out).bind fun t111 => some (t111, 0)) (fun k => by rw [epitomeref09_Of.j1, if_neg (by simp)]) ?_
 exact Ev.bind (refNorm_is out (by omega) hs) (Ev.now _)
theorem refComp_j3 {u v : Un} (us vs : List Un) (m : Nat) (hu : (tlU u m).ok) (hv : (tlU v m).ok) (zu : szU (tlU u m) ≤ 1099511627776) (zv : szU (tlU v m) ≤ 1099511627776) (h1 : us.length ≤ 1099511627776) (h2 : vs.length ≤ 1099511627776) (out : List Sp) {r : List Sp × Int}
  (hr : Ev (fun k => epitomeref09_Of.l0 k ((consF (tlU u m) us).map Un.sp) ((consF (tlU v m) vs).map Un.sp) out) r) :
  Ev (fun k => epitomeref09_Of.j3 k (u.sp :: us.map Un.sp) (v.sp :: vs.map Un.sp) out (tlU u m).sp.f0 (tlU u m).sp.f1 (tlU u m).sp.f2 (tlU v m).sp.f0 (tlU v m).sp.f1 (tlU v m).sp.f2) r := by
 have a1 : (1 : Int) ≤ ((u.sp :: us.map Un.sp).length : Int) := by simp; omega
 have b1 : (1 : Int) ≤ ((v.sp :: vs.map Un.sp).length : Int) := by simp; omega
 have a2 : [(⟨(tlU u m).sp.f0, (tlU u m).sp.f1, (tlU u m).sp.f2⟩ : Sp)].length + ((u.sp :: us.map Un.sp).drop 1).length < 4398046511104 := by simp; omega
 have b2 : [(⟨(tlU v m).sp.f0, (tlU v m).sp.f1, (tlU v m).sp.f2⟩ : Sp)].length + ((v.sp :: vs.map Un.sp).drop 1).length < 4398046511104 := by simp; omega
 have a3 : (1 : Int) ≤ (([(⟨(tlU u m).sp.f0, (tlU u m).sp.f1, (tlU u m).sp.f2⟩ : Sp)] ++ (u.sp :: us.map Un.sp).drop 1).length : Int) := by simp; omega
 have b3 : (1 : Int) ≤ (([(⟨(tlU v m).sp.f0, (tlU v m).sp.f1, (tlU v m).sp.f2⟩ : Sp)] ++ (v.sp :: vs.map Un.sp).drop 1).length : Int) := by simp; omega
 have eu : (consF (tlU u m) us).map Un.sp = if szU (tlU u m) = 0 then us.map Un.sp else (tlU u m).sp :: us.map Un.sp := by
  unfold consF
  rw [full_sz]
  by_cases h : szU (tlU u m) = 0 <;> simp [h]
 have ev : (consF (tlU v m) vs).map Un.sp = if szU (tlU v m) = 0 then vs.map Un.sp else (tlU v m).sp :: vs.map Un.sp := by
  unfold consF
  rw [full_sz]
  by_cases h : szU (tlU v m) = 0 <;> simp [h]
 rw [eu, ev] at hr
 have su := refSize_is (tlU u m) hu zu
 have sv := refSize_is (tlU v m) hv zv
 refine Ev.step (f := fun k => (epitomeref09_size.f k (tlU u m).sp.f0 (tlU u m).sp.f1 (tlU u m).sp.f2).bind fun t181 => if t181 = 0 then (epitomeref09_size.f k (tlU v m).sp.f0 (tlU v m).sp.f1 (tlU v m).sp.f2).bind fun t185 => (if t185 = 0 then epitomeref09_Of.l0 k (us.map Un.sp) (vs.map Un.sp) out else epitomeref09_Of.l0 k (us.map Un.sp) ((tlU v m).sp :: vs.map Un.sp) out) else (epitomeref09_size.f k (tlU v m).sp.f0 (tlU v m).sp.f1 (tlU v m).sp.f2).bind fun t189 => (if t189 = 0 then epitomeref09_Of.l0 k ((tlU u m).sp :: us.map Un.sp) (vs.map Un.sp) out else epitomeref09_Of.l0 k ((tlU u m).sp :: us.map Un.sp) ((tlU v m).sp :: vs.map Un.sp) out)) (fun k => ?_) ?_
 ·rw [epitomeref09_Of.j3]
  simp only [Option.bind_some, if_pos a1, if_pos a2, if_pos b1, if_pos b2, if_pos a3, if_pos b3]
  rfl
 ·refine Ev.bind su ?_
  by_cases hu0 : szU (tlU u m) = 0
  ·rw [if_pos hu0] at hr
   refine ev_if_pos (by omega) (Ev.bind sv ?_)
   by_cases hv0 : szU (tlU v m) = 0
   ·rw [if_pos hv0] at hr
    exact ev_if_pos (by omega) hr
   ·rw [if_neg hv0] at hr
    exact ev_if_neg (by omega) hr
  ·rw [if_neg hu0] at hr
   refine ev_if_neg (by omega) (Ev.bind sv ?_)
   by_cases hv0 : szU (tlU v m) = 0
   ·rw [if_pos hv0] at hr
    exact ev_if_pos (by omega) hr
   ·rw [if_neg hv0] at hr
    exact ev_if_neg (by omega) hr
theorem full_cout {w : Un} (h1 : fullU w = true) (h2 : w.sp.f0 ≠ 3) : 0 < w.cout := by
 cases w with
 | drop n => exact (h2 rfl).elim
 | keep n => simp [fullU] at h1; show 0 < n; omega
 | put l => cases l with
  | nil => simp [fullU] at h1
  | cons a l => show 0 < (a :: l).length; simp
theorem refComp_loop : ∀ (n : Nat) (us vs : List Un) (out : List Sp), Small us → Small vs → FullL us → FullL vs → us.length + vs.length ≤ n → n ≤ 1099511627776 → out.length + n ≤ 1099511627776 → coutU (exU us) = cinU (exU vs) → sizeS (out ++ (compUn n us vs).map Un.sp) ≤ 9223372036854775807 →
  Ev (fun k => epitomeref09_Of.l0 k (us.map Un.sp) (vs.map Un.sp) out) (norm (out ++ (compUn n us vs).map Un.sp), 0) := by
 intro n
 induction n with
 | zero =>
  intro us vs out _ _ _ _ h _ ho _ hs
  obtain rfl : us = [] := List.eq_nil_of_length_eq_zero (by omega)
  obtain rfl : vs = [] := List.eq_nil_of_length_eq_zero (by omega)
  simp only [compUn, List.map_nil, List.append_nil] at hs ⊢
  exact refComp_end out (by omega) hs
 | succ n ih =>
  intro us vs out hu hv fu fv hl hn ho hc hs
  have hlt : out.length < 4398046511104 := by omega
  by_cases hp : ∃ q r, vs = .put q :: r
  ·obtain ⟨q, r, rfl⟩ := hp
   simp only [List.length_cons] at hl
   have hc' : coutU (exU us) = cinU (exU r) := by rw [hc, exU_cons, cinU_append, cinU_un]; simp only [Un.cin]; omega
   have fin : out ++ [(Un.put q).sp] ++ (compUn n us r).map Un.sp = out ++ (compUn (n + 1) us (.put q :: r)).map Un.sp := by simp [compUn]
   have IH := ih us r (out ++ [(Un.put q).sp]) hu hv.tail fu fv.cons.2 (by omega) (by omega) (by (first | (simp; done) | (simp; omega))) hc' (by rw [fin]; exact hs)
   rw [fin] at IH
   refine refComp_in _ _ _ (.inr (by simp)) ?_
   refine Ev.step (f := fun k => epitomeref09_Of.j2 k (us.map Un.sp) ((Un.put q).sp :: r.map Un.sp) out true) (fun k => ?_) ?_
   ·rw [epitomeref09_Of.j1, if_pos rfl, List.map_cons, if_pos (by (first | (simp; done) | (simp; omega))), if_pos (by (first | (simp; done) | (simp; omega)))]
    rfl
   ·refine Ev.step (f := fun k => epitomeref09_Of.l0 k (us.map Un.sp) (r.map Un.sp) (out ++ [(Un.put q).sp])) (fun k => ?_) IH
    rw [epitomeref09_Of.j2, if_pos rfl, if_pos (by (first | (simp; done) | (simp; omega))), if_pos hlt, if_pos (by (first | (simp; done) | (simp; omega)))]
    rfl
  ·have hp' : ∀ v r, vs = v :: r → v.sp.f0 ≠ 2 := by
    intro v r e h
    cases v with
    | put q => exact hp ⟨q, r, e⟩
    | keep b => cases h
    | drop b => cases h
   have hpY : ∀ s r, vs.map Un.sp = s :: r → s.f0 ≠ 2 := by
    intro s r e
    rcases vs with _ | ⟨v, vs⟩
    ·cases e
    ·rw [List.map_cons] at e
     injection e with e1 e2
     rw [← e1]
     exact hp' v vs rfl
   rcases us with _ | ⟨u, us⟩
   ·rcases vs with _ | ⟨v, vs⟩
    ·simp only [compUn, List.map_nil, List.append_nil] at hs ⊢
     exact refComp_end out (by omega) hs
    ·exfalso
     have := full_cin fv.cons.1 (hp' v vs rfl)
     rw [exU_cons, cinU_append, cinU_un, exU_nil] at hc
     simp only [coutU] at hc
     omega
   ·refine refComp_in _ _ _ (.inl (by simp)) (refComp_j2f _ _ _ hpY ?_)
    simp only [List.length_cons] at hl
    by_cases hd : u.sp.f0 = 3
    ·cases u with
     | keep b => cases hd
     | put q => cases hd
     | drop m =>
      have hc' : coutU (exU us) = cinU (exU vs) := by rw [← hc, exU_cons, coutU_append, coutU_un]; simp only [Un.cout]; omega
      have eU : compUn (n + 1) (.drop m :: us) vs = .drop m :: compUn n us vs := by
       rcases vs with _ | ⟨v, vs⟩
       ·simp only [compUn]
       ·have hv2 := hp' v vs rfl
        cases v with
        | put q => exact (hv2 rfl).elim
        | keep b => simp only [compUn]
        | drop b => simp only [compUn]
      have fin : out ++ [(Un.drop m).sp] ++ (compUn n us vs).map Un.sp = out ++ (compUn (n + 1) (.drop m :: us) vs).map Un.sp := by rw [eU]; simp
      have IH := ih us vs (out ++ [(Un.drop m).sp]) hu.tail hv fu.cons.2 fv (by omega) (by omega) (by (first | (simp; done) | (simp; omega))) hc' (by rw [fin]; exact hs)
      rw [fin] at IH
      refine Ev.step (f := fun k => epitomeref09_Of.l0 k (us.map Un.sp) (vs.map Un.sp) (out ++ [(Un.drop m).sp])) (fun k => ?_) IH
      rw [List.map_cons, epitomeref09_Of.j2, if_neg (by simp), if_pos (by (first | (simp; done) | (simp; omega))), if_pos (show (rd_T41 ((Un.drop m).sp :: us.map Un.sp) 0).f0 = 3 from rfl), if_pos hlt, if_pos (by (first | (simp; done) | (simp; omega)))]
      rfl
    ·rcases vs with _ | ⟨v, vs⟩
     ·exfalso
      have := full_cout fu.cons.1 hd
      rw [exU_cons, coutU_append, coutU_un, exU_nil] at hc
      simp only [cinU] at hc
      omega
     ·have hv2 := hp' v vs rfl
      simp only [List.length_cons] at hl
      have su := hu.sz u (by simp)
      have sv := hv.sz v (by simp)
      have ou := hu.ok u (by simp)
      have ov := hv.ok v (by simp)
      obtain ⟨m, hm⟩ : ∃ m, min (szU u) (szU v) = m := ⟨_, rfl⟩
      have mu : m ≤ szU u := by omega
      have mv : m ≤ szU v := by omega
      have tu := tl_sz u m
      have tv := tl_sz v m
      have hsu : u.cout = szU u ∧ (tlU u m).cout = szU (tlU u m) := by
       cases u with
       | put q => exact ⟨rfl, rfl⟩
       | keep a => exact ⟨rfl, rfl⟩
       | drop a => exact (hd rfl).elim
      have hsv : v.cin = szU v ∧ (tlU v m).cin = szU (tlU v m) := by
       cases v with
       | put q => exact (hv2 rfl).elim
       | keep a => exact ⟨rfl, rfl⟩
       | drop a => exact ⟨rfl, rfl⟩
      have zu : szU (tlU u m) = szU u - m := by cases u <;> simp [tlU, szU]
      have zv : szU (tlU v m) = szU v - m := by cases v <;> simp [tlU, szU]
      have hlen := len_step (us := us) (vs := vs) (u := tlU u m) (v := tlU v m) ((Nat.le_total (szU u) (szU v)).elim (fun h => .inl (by rw [full_sz]; simp; omega)) (fun h => .inr (by rw [full_sz]; simp; omega)))
      have hcc : coutU (exU (consF (tlU u m) us)) = cinU (exU (consF (tlU v m) vs)) := by
       rw [exU_cons, exU_cons, coutU_append, cinU_append, cinU_un, coutU_un] at hc
       rw [ex_consF, ex_consF, coutU_append, cinU_append, cinU_un, coutU_un]
       omega
      have IH := fun o ho2 hs2 => ih _ _ o (hu.tl m) (hv.tl m) (FullL.consF fu.cons.2) (FullL.consF fv.cons.2) (by omega) (by omega) ho2 hcc hs2
      obtain ⟨o2, ho2⟩ : ∃ o2, (if (hdU v m).sp.f0 = 1 then out ++ [(hdU u m).sp] else if (hdU u m).sp.f0 = 1 then out ++ [(hdU v m).sp] else out) = o2 := ⟨_, rfl⟩
      have fin : o2 ++ (compUn n (consF (tlU u m) us) (consF (tlU v m) vs)).map Un.sp = out ++ (compUn (n + 1) (u :: us) (v :: vs)).map Un.sp := by
       rw [← ho2, ← hm]
       cases v with
       | put q => exact (hv2 rfl).elim
       | keep b =>
        rw [if_pos (show (hdU (.keep b) (min (szU u) (szU (.keep b)))).sp.f0 = 1 from rfl)]
        cases u with
        | drop a => exact (hd rfl).elim
        | keep a =>
         simp only [compUn, hdU, tlU, szU, List.map_cons, List.append_assoc, List.singleton_append]
         rw [show a - min a b = a - b by omega, show b - min a b = b - a by omega]
        | put l =>
         simp only [compUn, hdU, tlU, szU, List.map_cons, List.append_assoc, List.singleton_append]
         rw [take_min', drop_min', show b - min l.length b = b - l.length by omega]
       | drop b =>
        rw [if_neg (show ¬ (hdU (.drop b) (min (szU u) (szU (.drop b)))).sp.f0 = 1 by simp [hdU, Un.sp])]
        cases u with
        | drop a => exact (hd rfl).elim
        | keep a =>
         rw [if_pos (show (hdU (.keep a) (min (szU (.keep a)) (szU (.drop b)))).sp.f0 = 1 from rfl)]
         simp only [compUn, hdU, tlU, szU, List.map_cons, List.append_assoc, List.singleton_append]
         rw [show a - min a b = a - b by omega, show b - min a b = b - a by omega]
        | put l =>
         rw [if_neg (show ¬ (hdU (.put l) (min (szU (.put l)) (szU (.drop b)))).sp.f0 = 1 by simp [hdU, Un.sp])]
         simp only [compUn, hdU, tlU, szU]
         rw [drop_min', show b - min l.length b = b - l.length by omega]
      have hol : o2.length ≤ out.length + 1 := by
       rw [← ho2]
       split
       ·simp
       ·split <;> simp
      have IH2 := IH o2 (by omega) (by rw [fin]; exact hs)
      rw [fin] at IH2
      have J3 := refComp_j3 (u := u) (v := v) us vs m (tl_ok ou m) (tl_ok ov m) (by omega) (by omega) (by omega) (by omega) o2 IH2
      have s1 := refSize_is u ou su
      have s2 := refSize_is v ov sv
      have g1 := first_un u ou su m mu
      have g2 := first_un v ov sv m mv
      have em : mn ((szU u : Nat) : Int) ((szU v : Nat) : Int) = ((m : Nat) : Int) := by rw [mn_nat, hm]
      refine Ev.step (f := fun k => (epitomeref09_size.f k u.sp.f0 u.sp.f1 u.sp.f2).bind fun t134 => (epitomeref09_size.f k v.sp.f0 v.sp.f1 v.sp.f2).bind fun t136 => (epitomeref09_First.f k u.sp.f0 u.sp.f1 u.sp.f2 (mn t134 t136)).bind fun bt138 => (epitomeref09_First.f k v.sp.f0 v.sp.f1 v.sp.f2 (mn t134 t136)).bind fun bt147 => if bt147.1 = 1 then epitomeref09_Of.j3 k (u.sp :: us.map Un.sp) (v.sp :: vs.map Un.sp) (out ++ [(⟨bt138.1, bt138.2.1, bt138.2.2.1⟩ : Sp)]) bt138.2.2.2.1 bt138.2.2.2.2.1 bt138.2.2.2.2.2 bt147.2.2.2.1 bt147.2.2.2.2.1 bt147.2.2.2.2.2 else if bt138.1 = 1 then epitomeref09_Of.j3 k (u.sp :: us.map Un.sp) (v.sp :: vs.map Un.sp) (out ++ [(⟨bt147.1, bt147.2.1, bt147.2.2.1⟩ : Sp)]) bt138.2.2.2.1 bt138.2.2.2.2.1 bt138.2.2.2.2.2 bt147.2.2.2.1 bt147.2.2.2.2.1 bt147.2.2.2.2.2 else epitomeref09_Of.j3 k (u.sp :: us.map Un.sp) (v.sp :: vs.map Un.sp) out bt138.2.2.2.1 bt138.2.2.2.2.1 bt138.2.2.2.2.2 bt147.2.2.2.1 bt147.2.2.2.2.1 bt147.2.2.2.2.2) (fun k => ?_) ?_
      ·rw [List.map_cons, List.map_cons, epitomeref09_Of.j2, if_neg (by simp), if_pos (by (first | (simp; done) | (simp; omega))), if_neg (show ¬ (rd_T41 (u.sp :: us.map Un.sp) 0).f0 = 3 from hd)]
       simp only [if_pos (show 0 < ((v.sp :: vs.map Un.sp).length : Int) by (first | (simp; done) | (simp; omega))), if_pos hlt]
       rfl
      ·refine Ev.bind s1 (Ev.bind s2 ?_)
       simp only [em]
       refine Ev.bind g1 (Ev.bind g2 ?_)
       by_cases q1 : (hdU v m).sp.f0 = 1
       ·rw [if_pos q1] at ho2
        subst ho2
        exact ev_if_pos q1 J3
       ·rw [if_neg q1] at ho2
        refine ev_if_neg q1 ?_
        by_cases q2 : (hdU u m).sp.f0 = 1
        ·rw [if_pos q2] at ho2
         subst ho2
         exact ev_if_pos q2 J3
        ·rw [if_neg q2] at ho2
         subst ho2
         exact ev_if_neg q2 J3
theorem refComp_is {us vs : List Un} (hu : Ok us) (hv : Ok vs) (h1 : (us.map Un.cout).sum ≤ 4194304) (h2 : (vs.map Un.cout).sum ≤ 4194304) (hc : (us.map Un.cout).sum = (vs.map Un.cin).sum) :
  Ev (fun k => epitomeref09_Of.l0 k ((canon (exU us)).map Un.sp) ((canon (exU vs)).map Un.sp) []) ((canon (compU (exU us) (exU vs))).map Un.sp, 0) := by
 have l1 := canon_len_sum hu h1
 have l2 := canon_len_sum hv h2
 have hcu : coutU (exU us) = cinU (exU vs) := by rw [coutU_ex, cinU_ex]; exact hc
 have hcx : coutU (exU (canon (exU us))) = cinU (exU (canon (exU vs))) := by rw [ex_canon, ex_canon]; exact hcu
 obtain ⟨ce, lenC⟩ := compUn_ex ((canon (exU us)).length + (canon (exU vs)).length) _ _ (canon_full (exU us)) (canon_full (exU vs)) (Nat.le_refl _) hcx
 rw [ex_canon, ex_canon] at ce
 obtain ⟨s1, s2⟩ := comp_sizes (exU us) (exU vs) hcu
 have o1 := cinU_ex (compUn ((canon (exU us)).length + (canon (exU vs)).length) (canon (exU us)) (canon (exU vs)))
 have o2 := coutU_ex (compUn ((canon (exU us)).length + (canon (exU vs)).length) (canon (exU us)) (canon (exU vs)))
 rw [ce, s1, cinU_ex us] at o1
 rw [ce, s2, coutU_ex vs] at o2
 have hci := hu.cin
 have hz := sizeS_cout (compUn ((canon (exU us)).length + (canon (exU vs)).length) (canon (exU us)) (canon (exU vs)))
 have lp := refComp_loop ((canon (exU us)).length + (canon (exU vs)).length) _ _ [] (canon_small hu h1) (canon_small hv h2) (canon_full _) (canon_full _) (Nat.le_refl _) (by omega) (by simp only [List.length_nil]; omega) hcx (by rw [List.nil_append]; omega)
 rw [List.nil_append, norm_ex _ (by omega), ce] at lp
 exact lp
end Go.Proofs.YthhgobiaecehbaaDoor.F
end
section
namespace Go.Proofs.YthhgobiaecehbaaDoor.F
open Go.RowKit Go.Proofs.YthhgobiaecehbaaDoorW.PrintWords Go.Proofs.YthhgobiaecehbaaDoorW.PrintLast Go.Proofs.YthhgobiaecehbaaDoorW.PrintMore
set_option linter.unusedVariables false
set_option linter.unusedSimpArgs false
theorem refNormOk_is {ws : List Un} (h : Ok ws) : Ev (fun k => epitomeref05_Of.f k (ws.map Un.sp)) ((canon (exU ws)).map Un.sp) := by
 have g1 := h.len
 have g2 := h.cin
 have g3 := h.cout
 have := sizeS_cout ws
 rw [← norm_ex ws (by omega)]
 exact refNorm_is _ (by rw [List.length_map]; omega) (by omega)
theorem refCompOf_is {us vs : List Un} (hu : Ok us) (hv : Ok vs) (h1 : (us.map Un.cout).sum ≤ 4194304) (h2 : (vs.map Un.cout).sum ≤ 4194304) (p0 : Ev (fun k => epitomeref04_May.f k (us.map Un.sp)) 0) (p1 : Ev (fun k => epitomeref04_May.f k (vs.map Un.sp)) 0) (hc : (us.map Un.cout).sum = (vs.map Un.cin).sum) :
  Ev (fun k => epitomeref09_Of.f k (us.map Un.sp) (vs.map Un.sp)) ((canon (compU (exU us) (exU vs))).map Un.sp, 0) := by
 unfold epitomeref09_Of.f
 exact Ev.bind p0 (Ev.bind p1 (ev_if_pos rfl (ev_if_pos rfl (Ev.bind (refOut_is hu) (Ev.bind (refIn_is hv) (ev_if_pos (by omega) (Ev.bind (refNormOk_is hu) (Ev.bind (refNormOk_is hv) (refComp_is hu hv h1 h2 hc)))))))))
end Go.Proofs.YthhgobiaecehbaaDoor.F
end
section
namespace Go.Proofs.YthhgobiaecehbaaDoor.F
open Go.RowKit Go.Proofs.YthhgobiaecehbaaDoorW.PrintWords Go.Proofs.YthhgobiaecehbaaDoorW.PrintLast Go.Proofs.YthhgobiaecehbaaDoorW.PrintMore
set_option linter.unusedVariables false
set_option linter.unusedSimpArgs false
theorem opKeep_out (n : Int) (h : n < 0 ∨ 1048576 < n) : Ev (fun k => op_Keep.f k n) ([], 2) := by
 have j : Ev (fun k => op_Keep.j0 k n true) ([], 2) := Ev.step (f := fun _ => some ([], 2)) (fun k => by rw [op_Keep.j0, if_pos rfl]) (Ev.now _)
 unfold op_Keep.f
 by_cases h0 : n < 0
 ·exact ev_if_pos h0 j
 ·refine ev_if_neg h0 ?_
  rw [decide_eq_true (by omega)]
  exact j
end Go.Proofs.YthhgobiaecehbaaDoor.F
end
section
namespace Go.Proofs.YthhgobiaecehbaaDoor.F
open Go.RowKit Go.Proofs.YthhgobiaecehbaaDoorW.PrintWords Go.Proofs.YthhgobiaecehbaaDoorW.PrintLast Go.Proofs.YthhgobiaecehbaaDoorW.PrintMore
set_option linter.unusedVariables false
set_option linter.unusedSimpArgs false
theorem len_puts : ∀ x : List U, x.length = cinU x + putsU x
 | [] => rfl
 | .p _ :: x => by have := len_puts x; simp only [List.length_cons, cinU, putsU]; omega
 | .k :: x => by have := len_puts x; simp only [List.length_cons, cinU, putsU]; omega
 | .d :: x => by have := len_puts x; simp only [List.length_cons, cinU, putsU]; omega
theorem cout_puts : ∀ x : List U, coutU x ≤ cinU x + putsU x
 | [] => Nat.zero_le _
 | .p _ :: x => by have := cout_puts x; simp only [coutU, cinU, putsU]; omega
 | .k :: x => by have := cout_puts x; simp only [coutU, cinU, putsU]; omega
 | .d :: x => by have := cout_puts x; simp only [coutU, cinU, putsU]; omega
theorem puts_text : ∀ us : List Un, putsU (exU us) ≤ sizeS (us.map Un.sp)
 | [] => Nat.zero_le _
 | u :: us => by
  have h2 := puts_text us
  have h1 : putsU u.ex ≤ u.sp.f2.size := by
   cases u with
   | keep n => rw [show (Un.keep n).ex = List.replicate n .k from rfl, putsU_k2]; exact Nat.zero_le _
   | put l => rw [show (Un.put l).ex = l.map .p from rfl, putsU_put2]; exact (encT_size l).1
   | drop n => rw [show (Un.drop n).ex = List.replicate n .d from rfl, putsU_d2]; exact Nat.zero_le _
  rw [exU_cons, putsU_app2]
  unfold sizeS at h2 ⊢
  simp only [List.map_cons, List.sum_cons]
  omega
theorem canon_okB {y : List U} (h : RunesU y) (h1 : cinU y ≤ 1048576) (h2 : putsU y ≤ 262144) : Ok (canon y) := by
 have h3 := canon_length y
 have h4 := len_puts y
 have h5 := cout_puts y
 exact ⟨ok_canon y h, by omega, by rw [canon_in]; exact h1, by rw [canon_out]; omega⟩
theorem cin_le_sum {us : List Un} {u : Un} (hu : u ∈ us) : u.cin ≤ (us.map Un.cin).sum := by
 induction us with
 | nil => cases hu
 | cons v us ih =>
  rw [List.map_cons, List.sum_cons]
  rcases List.mem_cons.1 hu with rfl | hu
  ·omega
  ·have := ih hu; omega
theorem refMayOk_loop {l : List Un} (hl : Ok l) (hb : (l.map Un.cout).sum ≤ 4194304) : ∀ (r pre : List Un), l = pre ++ r → Ev (fun k => epitomeref04_May.l0 k (l.map Un.sp) (pre.length : Int)) 0
 | [], pre, h => by
  have hci := hl.cin
  refine Ev.step (f := fun k => (epitomeref04_In.f k (l.map Un.sp)).bind fun t103 => if t103 > 1048576 then some 4 else some 0) (fun k => by rw [epitomeref04_May.l0, if_neg (by subst h; simp)]) ?_
  exact Ev.bind (refIn_is hl) (ev_if_neg (by omega) (Ev.now 0))
 | u :: r, pre, h => by
  have hlt : (pre.length : Int) < ((l.map Un.sp).length : Int) := by subst h; simp <;> omega
  have hpl : pre.length ≤ l.length := by rw [h]; simp
  have hlen := hl.len
  have hrd : rd_T41 (l.map Un.sp) (pre.length : Int) = u.sp := by
   rw [h, List.map_append, List.map_cons]
   exact rdS_at (by simp)
  have hu : u ∈ l := by rw [h]; simp
  have ih := refMayOk_loop hl hb r (pre ++ [u]) (by simp [h])
  rw [List.length_append, List.length_singleton] at ih
  have h10 := cout_le_sum hu
  have h11 := cin_le_sum hu
  have h12 := hl.cin
  have h9 : u.sp.f2.size ≤ 4 * u.cout := by
   cases u with
   | keep n => exact Nat.zero_le _
   | put l => exact (encT_size l).2
   | drop n => exact Nat.zero_le _
  have h13 : spMayD u.sp = 0 := ev_det (spanMay_all u.sp (by omega)) (spanMay_is u (hl.ok u hu) (by omega) (by omega))
  have h14 := refMay_all u.sp (by omega)
  rw [h13] at h14
  refine Ev.step (f := fun k => (epitomeref03_May.f k u.sp.f0 u.sp.f1 u.sp.f2).bind fun t102 => if t102 = 0 then epitomeref04_May.l0 k (l.map Un.sp) ((pre.length + 1 : Nat) : Int) else some t102) (fun k => ?_) (Ev.bind h14 (ev_if_pos rfl ih))
  rw [epitomeref04_May.l0, if_pos hlt, if_pos (by omega), hrd, w64_succ _ (by omega)]
theorem refMayOk {us : List Un} (h : Ok us) (hb : (us.map Un.cout).sum ≤ 4194304) : Ev (fun k => epitomeref04_May.f k (us.map Un.sp)) 0 := by
 unfold epitomeref04_May.f
 exact refMayOk_loop h hb us [] rfl
def RowOk (C : Nat) (y : List Sp) : Prop := ∃ e : Int, Ev (fun k => op_May.f k y) e ∧ Ev (fun k => epitomeref04_May.f k y) e ∧ (e = 0 → ∃ us, y = us.map Un.sp ∧ Ok us ∧ putsU (exU us) ≤ C)
theorem rowOk_few (l : List Sp) : RowOk 1200 (fewS l) := by
 obtain ⟨e, p, q, w⟩ := few_ops l
 refine ⟨e, p, q, fun he => ?_⟩
 obtain ⟨us, hus, hok, _⟩ := w he
 refine ⟨us, hus, hok, ?_⟩
 have h1 := fewS_length l
 have h3 := puts_text us
 have h5 := sizeS_le 60 (fewS l) (fewS_text l)
 rw [← hus] at h3
 omega
theorem rowOk_un {C : Nat} {us : List Un} (h : Ok us) (hb : (us.map Un.cout).sum ≤ C) (hC : C ≤ 4194304) : RowOk C (us.map Un.sp) :=
 ⟨0, opMay_is h, refMayOk h (by omega), fun _ => ⟨us, rfl, h, by have := putsU_cout (exU us); rw [coutU_ex] at this; omega⟩⟩
theorem rd_row {l pre ys : List (List Sp)} {y : List Sp} (h : l = pre ++ y :: ys) : rd_L3 l (pre.length : Int) = y := by
 unfold rd_L3
 rw [h]
 simp
theorem fuse_any {C : Nat} (hC : 0 < C) (l : List (List Sp)) (hl : C * l.length ≤ 262144) : ∀ (ys pre : List (List Sp)) (x : List U), l = pre ++ ys → (∀ y ∈ ys, RowOk C y) → RunesU x → cinU x ≤ 1048576 → putsU x ≤ C * pre.length →
  ∃ c e : Int, Ev (fun k => fuseC k (coutU x : Int) ys) (c, e) ∧ Ev (fun k => epitomeref10_Chain.l0 k (coutU x : Int) l (pre.length : Int)) (c, e) ∧
   (e ≠ 0 → Ev (fun k => fuseL k ((canon x).map Un.sp) ys) ([], e)) ∧
   (e = 0 → ∃ z : List Sp, z.length ≤ 4611686018427387904 ∧ Ev (fun k => fuseL k ((canon x).map Un.sp) ys) (z, 0) ∧ Ev (fun k => epitomeref10_Of.l0 k l ((canon x).map Un.sp) (pre.length : Int)) (z, 0))
 | [], pre, x, h, _, hr, h1, h2 => by
  rw [List.append_nil] at h
  subst h
  refine ⟨(coutU x : Int), 0, Ev.now _, ?_, fun he => absurd rfl he, fun _ => ⟨(canon x).map Un.sp, ?_, Ev.now _, ?_⟩⟩
  ·exact Ev.step (f := fun _ => some ((coutU x : Int), 0)) (fun k => by rw [epitomeref10_Chain.l0, if_neg (by omega)]) (Ev.now _)
  ·have := canon_length x
   have := len_puts x
   rw [List.length_map]
   omega
  ·exact Ev.step (f := fun _ => some ((canon x).map Un.sp, 0)) (fun k => by rw [epitomeref10_Of.l0, if_neg (by omega)]) (Ev.now _)
 | y :: ys, pre, x, h, hy, hr, h1, h2 => by
  have hll : l.length = pre.length + (ys.length + 1) := by rw [h]; simp
  have hrd := rd_row h
  have hpc : C * pre.length ≤ C * l.length := Nat.mul_le_mul_left C (by omega)
  have hll2 : l.length ≤ 262144 := Nat.le_trans (Nat.le_mul_of_pos_left _ hC) hl
  have okx := canon_okB hr h1 (by omega)
  have ci := canon_in x
  have co := canon_out x
  have c5 := cout_puts x
  obtain ⟨e, p, q, w⟩ := hy y (by simp)
  by_cases he : e = 0
  ·subst he
   obtain ⟨us, eu, hu, pu⟩ := w rfl
   subst eu
   have hci := cinU_ex us
   have hco := coutU_ex us
   have hp5 := cout_puts (exU us)
   have hu1 := hu.cin
   have hpl : C ≤ C * l.length := Nat.le_mul_of_pos_right _ (by omega)
   by_cases hc : (us.map Un.cin).sum = coutU x
   ·obtain ⟨s1, s2⟩ := comp_sizes x (exU us) (by omega)
    have e1 := compose_is okx hu (by omega) (by omega) (by omega)
    have e2 := refCompOf_is okx hu (by omega) (by omega) (refMayOk okx (by omega)) q (by omega)
    rw [ex_canon] at e1 e2
    have s3 : coutU (compU x (exU us)) = (us.map Un.cout).sum := by rw [s2, hco]
    have less := comp_less x (exU us)
    obtain ⟨c, e, g1, g2, g3, g4⟩ := fuse_any hC l hl ys (pre ++ [us.map Un.sp]) (compU x (exU us)) (by rw [h]; simp) (fun z hz => hy z (by simp [hz])) (comp_runes _ _ hr (runesU_ex us hu.ok)) (by omega) (by rw [List.length_append, List.length_singleton, Nat.mul_succ]; omega)
    rw [s3] at g1 g2
    rw [List.length_append, List.length_singleton] at g2 g4
    have en : Ev (fun k => fuse_next.f k (coutU x : Int) (us.map Un.sp)) ((((us.map Un.cout).sum : Nat) : Int), 0) := by
     unfold fuse_next.f
     exact Ev.bind (opMay_is hu) (ev_if_pos rfl (Ev.bind (opIn_is hu) (ev_if_pos (by omega) (Ev.bind (opOut_is hu) (Ev.now _)))))
    refine ⟨c, e, ?_, ?_, fun he => ?_, fun he => ?_⟩
    ·show Ev (fun k => (fuse_next.f k (coutU x : Int) (us.map Un.sp)).bind fun z => if z.2 = 0 then fuseC k z.1 ys else some (0, z.2)) _
     exact Ev.bind en (ev_if_pos rfl g1)
    ·refine Ev.step (f := fun k => (epitomeref04_May.f k (us.map Un.sp)).bind fun t106 => if t106 = 0 then (epitomeref04_In.f k (us.map Un.sp)).bind fun t108 => if t108 = (coutU x : Int) then (epitomeref04_Out.f k (us.map Un.sp)).bind fun t110 => epitomeref10_Chain.l0 k t110 l ((pre.length + 1 : Nat) : Int) else some (0, 5) else some (0, t106)) (fun k => ?_) ?_
     ·rw [epitomeref10_Chain.l0, if_pos (by omega), if_pos (by omega), hrd, w64_succ _ (by omega)]
     ·exact Ev.bind q (ev_if_pos rfl (Ev.bind (refIn_is hu) (ev_if_pos (by omega) (Ev.bind (refOut_is hu) g2))))
    ·show Ev (fun k => (compose_Of.f k ((canon x).map Un.sp) (us.map Un.sp)).bind fun z => if z.2 = 0 then fuseL k z.1 ys else some ([], z.2)) _
     exact Ev.bind e1 (ev_if_pos rfl (g3 he))
    ·obtain ⟨z, zl, z1, z2⟩ := g4 he
     refine ⟨z, zl, ?_, ?_⟩
     ·show Ev (fun k => (compose_Of.f k ((canon x).map Un.sp) (us.map Un.sp)).bind fun z => if z.2 = 0 then fuseL k z.1 ys else some ([], z.2)) _
      exact Ev.bind e1 (ev_if_pos rfl z1)
     ·refine Ev.step (f := fun k => (epitomeref09_Of.f k ((canon x).map Un.sp) (us.map Un.sp)).bind fun bt108 => epitomeref10_Of.l0 k l bt108.1 ((pre.length + 1 : Nat) : Int)) (fun k => ?_) (Ev.bind e2 z2)
      rw [epitomeref10_Of.l0, if_pos (by omega), if_pos (by omega), hrd, w64_succ _ (by omega)]
   ·refine ⟨0, 5, ?_, ?_, fun _ => ?_, fun he => absurd he (by decide)⟩
    ·exact fuseC_odd hu hc
    ·refine Ev.step (f := fun k => (epitomeref04_May.f k (us.map Un.sp)).bind fun t106 => if t106 = 0 then (epitomeref04_In.f k (us.map Un.sp)).bind fun t108 => if t108 = (coutU x : Int) then (epitomeref04_Out.f k (us.map Un.sp)).bind fun t110 => epitomeref10_Chain.l0 k t110 l ((pre.length + 1 : Nat) : Int) else some (0, 5) else some (0, t106)) (fun k => ?_) ?_
     ·rw [epitomeref10_Chain.l0, if_pos (by omega), if_pos (by omega), hrd, w64_succ _ (by omega)]
     ·exact Ev.bind q (ev_if_pos rfl (Ev.bind (refIn_is hu) (ev_if_neg (by omega) (Ev.now _))))
    ·exact fuseL_odd okx hu (by omega)
  ·refine ⟨0, e, ?_, ?_, fun _ => ?_, fun h0 => absurd h0 he⟩
   ·show Ev (fun k => (fuse_next.f k (coutU x : Int) y).bind fun z => if z.2 = 0 then fuseC k z.1 ys else some (0, z.2)) _
    refine Ev.bind (a := (0, e)) ?_ (ev_if_neg he (Ev.now _))
    unfold fuse_next.f
    exact Ev.bind p (ev_if_neg he (Ev.now _))
   ·refine Ev.step (f := fun k => (epitomeref04_May.f k y).bind fun t106 => if t106 = 0 then (epitomeref04_In.f k y).bind fun t108 => if t108 = (coutU x : Int) then (epitomeref04_Out.f k y).bind fun t110 => epitomeref10_Chain.l0 k t110 l ((pre.length + 1 : Nat) : Int) else some (0, 5) else some (0, t106)) (fun k => ?_) ?_
    ·rw [epitomeref10_Chain.l0, if_pos (by omega), if_pos (by omega), hrd, w64_succ _ (by omega)]
    ·exact Ev.bind q (ev_if_neg he (Ev.now _))
   ·show Ev (fun k => (compose_Of.f k ((canon x).map Un.sp) y).bind fun z => if z.2 = 0 then fuseL k z.1 ys else some ([], z.2)) _
    refine Ev.bind (a := ([], e)) ?_ (ev_if_neg he (Ev.now _))
    unfold compose_Of.f
    exact Ev.bind (opMay_is okx) (ev_if_pos rfl (Ev.bind p (ev_if_neg he (Ev.now _))))
theorem refKeep_is (n : Nat) (h : n ≤ 1048576) : Ev (fun k => epitomeref04_Keep.f k (n : Int)) ((keepU n).map Un.sp, 0) := by
 unfold epitomeref04_Keep.f
 refine ev_if_neg (by omega) ?_
 rw [decide_eq_false (by omega)]
 refine Ev.step (f := fun _ => some ((keepU n).map Un.sp, 0)) (fun k => ?_) (Ev.now _)
 rw [epitomeref04_Keep.j0, if_neg (by simp)]
 unfold keepU
 by_cases h0 : n = 0
 ·subst h0
  rfl
 ·rw [if_neg (by omega), if_neg h0]
  rfl
theorem refKeep_out (n : Int) (h : n < 0 ∨ 1048576 < n) : Ev (fun k => epitomeref04_Keep.f k n) ([], 2) := by
 have j : Ev (fun k => epitomeref04_Keep.j0 k n true) ([], 2) := Ev.step (f := fun _ => some ([], 2)) (fun k => by rw [epitomeref04_Keep.j0, if_pos rfl]) (Ev.now _)
 unfold epitomeref04_Keep.f
 by_cases h0 : n < 0
 ·exact ev_if_pos h0 j
 ·refine ev_if_neg h0 ?_
  rw [decide_eq_true (by omega)]
  exact j
theorem fuseAny_is {C : Nat} (hC : 0 < C) (n : Int) (l : List (List Sp)) (hl : C * l.length ≤ 262144) (hy : ∀ y ∈ l, RowOk C y) :
  ∃ (r : List Sp × Int) (c : Int × Int), r.1.length ≤ 4611686018427387904 ∧ Ev (fun k => fuse_Of.f k n l) r ∧ Ev (fun k => epitomeref10_Of.f k n l) r ∧ Ev (fun k => fuse_Chain.f k n l) c ∧ Ev (fun k => epitomeref10_Chain.f k n l) c := by
 by_cases h : n < 0 ∨ 1048576 < n
 ·have a := opKeep_out n h
  have b := refKeep_out n h
  have c1 : Ev (fun k => epitomeref10_Chain.f k n l) (0, 2) := by
   unfold epitomeref10_Chain.f
   exact Ev.bind b (ev_if_neg (by decide) (Ev.now _))
  refine ⟨([], 2), (0, 2), Nat.zero_le _, ?_, ?_, ?_, c1⟩
  ·unfold fuse_Of.f
   exact Ev.bind a (ev_if_neg (by decide) (Ev.now _))
  ·unfold epitomeref10_Of.f
   exact Ev.bind c1 (ev_if_neg (by decide) (Ev.now _))
  ·unfold fuse_Chain.f
   exact Ev.bind a (ev_if_neg (by decide) (Ev.now _))
 ·obtain ⟨m, rfl⟩ : ∃ m : Nat, n = (m : Int) := ⟨n.toNat, by omega⟩
  have a := opKeep_is m (by omega)
  have b := refKeep_is m (by omega)
  have c2 := keeps_out m
  have c3 := keeps_in m
  have c4 : putsU (List.replicate m U.k) = 0 := putsU_k2 m
  obtain ⟨c, e, g1, g2, g3, g4⟩ := fuse_any hC l hl l [] (List.replicate m .k) rfl hy (keeps_runes m) (by omega) (by omega)
  rw [canon_keeps] at g3 g4
  rw [c2] at g1 g2
  have d1 : Ev (fun k => fuse_Chain.f k (m : Int) l) (c, e) := by
   unfold fuse_Chain.f
   exact Ev.bind a (ev_if_pos rfl g1)
  have d2 : Ev (fun k => epitomeref10_Chain.f k (m : Int) l) (c, e) := by
   unfold epitomeref10_Chain.f
   exact Ev.bind b (ev_if_pos rfl g2)
  by_cases he : e = 0
  ·obtain ⟨z, zl, z1, z2⟩ := g4 he
   subst he
   refine ⟨(z, 0), (c, 0), zl, ?_, ?_, d1, d2⟩
   ·unfold fuse_Of.f
    exact Ev.bind a (ev_if_pos rfl z1)
   ·unfold epitomeref10_Of.f
    exact Ev.bind d2 (ev_if_pos rfl (Ev.bind b z2))
  ·refine ⟨([], e), (c, e), Nat.zero_le _, ?_, ?_, d1, d2⟩
   ·unfold fuse_Of.f
    exact Ev.bind a (ev_if_pos rfl (g3 he))
   ·unfold epitomeref10_Of.f
    exact Ev.bind d2 (ev_if_neg he (Ev.now _))
theorem chain_cout : ∀ (w : List (List Un)) (n : Nat), ChainOk n w → ∀ us ∈ w, (us.map Un.cout).sum ≤ n + 78 * w.length
 | [], _, _, us, h => by cases h
 | vs :: w, n, ⟨fu, hc⟩, us, h => by
  have hco := fu.cout
  rw [List.length_cons, Nat.mul_succ]
  rcases List.mem_cons.1 h with rfl | h
  ·omega
  ·have := chain_cout w _ hc us h
   omega
end Go.Proofs.YthhgobiaecehbaaDoor.F
end
section
namespace Go.Proofs.YthhgobiaecehbaaDoor.F
open Go.RowKit Go.Proofs.YthhgobiaecehbaaDoorW.PrintWords Go.Proofs.YthhgobiaecehbaaDoorW.PrintLast Go.Proofs.YthhgobiaecehbaaDoorW.PrintMore
set_option linter.unusedVariables false
set_option linter.unusedSimpArgs false
theorem shown10 : Ev (fun k => epitomelaw10_shown.f k) true := Ev.of epitomelaw10_shown.mono (k := 40) (by decide +kernel)
end Go.Proofs.YthhgobiaecehbaaDoor.F
end
section
namespace Go.Proofs.YthhgobiaecehbaaDoor.F
open Go.RowKit Go.Proofs.YthhgobiaecehbaaDoorW.PrintWords Go.Proofs.YthhgobiaecehbaaDoorW.PrintLast Go.Proofs.YthhgobiaecehbaaDoorW.PrintMore
attribute [local go_sem] max2_int min2_int max_two min_two max_three min_three max_four min_four cell_setCell_isSome
set_option linter.unusedVariables false
set_option linter.unusedSimpArgs false
def epitomelaw10_FuseDoes.Pure : Prop := ∀ (a0 : ByteArray) (l1 : List (List (S41))), a0.size ≤ maxLen → (l1.length ≤ maxLen ∧ ∀ x_ ∈ l1, (x_.length ≤ maxLen ∧ ∀ x_x_ ∈ x_, V41 x_x_)) → ∃ k, epitomelaw10_FuseDoes.f k a0 l1 = some true
end Go.Proofs.YthhgobiaecehbaaDoor.F
end
section
namespace Go.Proofs.YthhgobiaecehbaaDoor.F
open Go.RowKit Go.Proofs.YthhgobiaecehbaaDoorW.PrintWords Go.Proofs.YthhgobiaecehbaaDoorW.PrintLast Go.Proofs.YthhgobiaecehbaaDoorW.PrintMore
set_option linter.unusedVariables false
set_option linter.unusedSimpArgs false
theorem chainOk_ok : ∀ (w : List (List Un)) (n : Nat), ChainOk n w → ∀ us ∈ w, Ok us
 | [], _, _, us, h => by cases h
 | vs :: w, n, ⟨fu, hc⟩, us, h => by
  rcases List.mem_cons.1 h with rfl | h
  ·exact fu.ok
  ·exact chainOk_ok w _ hc us h
end Go.Proofs.YthhgobiaecehbaaDoor.F
end
section
namespace Go.Proofs.YthhgobiaecehbaaDoor.F
open Go.RowKit Go.Proofs.YthhgobiaecehbaaDoorW.PrintWords Go.Proofs.YthhgobiaecehbaaDoorW.PrintLast Go.Proofs.YthhgobiaecehbaaDoorW.PrintMore
set_option linter.unusedVariables false
set_option linter.unusedSimpArgs false
theorem bools_of_struct {H : Type} {enc : TypeId × Value → H} {P : Program} {w : World} {base : Nat} {sp : Nat → Bool} {held : Bool} {fuel : Nat} {t : TypeId} {fs : Array Field} {cs : List Value} {zs : List Bool} {p : List MemPlace} (ht : P.underlying t = some (.struct fs))
    (hf : ∀ (i : Nat) (f : Field), fs[i]? = some f → P.underlying f.type = some .bool ∧ f.offset = i ∧ P.cellsOf f.type = 1) (hct : P.cellsOf t = fs.size)
    (h : DataW.trod enc P w base sp held fuel t cs = some (.agg (zs.map fun z => .lit (.bool z)), p)) : cs = zs.map fun z => Value.bool z := by
  obtain ⟨xs, n, rfl, hx, hl, hxl, hall⟩ := DataW.trod_struct ht h
  have hxs : xs.map (·.1) = zs.map fun z => (DataW.lit (.bool z) : DataW H) := by
    have := congrArg Prod.fst hx
    simpa using this.symm
  have hzl : zs.length = fs.size := by
    have := congrArg List.length hxs
    simp at this
    omega
  apply List.ext_getElem?
  intro i
  by_cases hi : i < fs.size
  · obtain ⟨hu, ho, hc⟩ := hf i fs[i] (by simp [hi])
    have h1 := hall i fs[i] (by simp [hi])
    obtain ⟨b, hb⟩ : ∃ b, xs[i]? = some b := ⟨xs[i]'(by omega), List.getElem?_eq_getElem (by omega)⟩
    rw [hb, ho, hc] at h1
    obtain ⟨z, hcz, rfl⟩ := DataW.trod_bool hu h1
    have h2 : cs[i]? = some (.bool z) := by
      have := congrArg (·[0]?) hcz
      simpa [List.getElem?_take, List.getElem?_drop] using this
    have h3 : (xs.map (·.1))[i]? = some (DataW.lit (.bool z) : DataW H) := by simp [hb]
    rw [hxs] at h3
    simp only [List.getElem?_map, Option.map_eq_some_iff, DataW.lit.injEq, Lit.bool.injEq] at h3
    obtain ⟨z', hz', rfl⟩ := h3
    simp [h2, hz']
  · rw [List.getElem?_eq_none (by omega), List.getElem?_eq_none (by simp; omega)]
theorem kinds_of_reads {W : World} (h : Lib.VarReads Tryd.prog W "epitome/span.kinds" Rows.laid_epitome_span_kinds) (i : Nat) (hi : i < 4) :
    W.cell? ⟨0, 2 * i, none⟩ = some (.bool (decide (i = 1 ∨ i = 3))) ∧ W.cell? ⟨0, 2 * i + 1, none⟩ = some (.bool (decide (i = 1))) := by
  obtain ⟨g, t, cs, fuel, p, hg, hty, hvar, hd⟩ := h
  have n0 : Tryd.prog.globalNamed "epitome/span.kinds" = some 0 := by kernel_rfl
  have y0 : (Tryd.prog.globals[0]?).map (·.type) = some 98 := by kernel_rfl
  have c4 : Tryd.prog.cellsOf 4 = 1 := by kernel_rfl
  have c90 : Tryd.prog.cellsOf 88 = 2 := by kernel_rfl
  obtain rfl := Option.some.inj (n0.symm.trans hg)
  obtain rfl := Option.some.inj (y0.symm.trans hty)
  obtain ⟨fuel', d, q, hdi, he⟩ := Lib.array_elem Tryd.underlying98 hd i hi
  have hdd : d = .agg ([decide (i = 1 ∨ i = 3), decide (i = 1)].map fun z => .lit (.bool z)) := by
    have : i = 0 ∨ i = 1 ∨ i = 2 ∨ i = 3 := by omega
    rcases this with rfl | rfl | rfl | rfl <;> (simp at hdi; exact hdi.symm)
  rw [hdd, c90] at he
  have hcs := bools_of_struct Tryd.underlying88 (fun j f hj => by
    match j, hj with
    | 0, hj => simp at hj; subst hj; exact ⟨Tryd.underlying4, rfl, c4⟩
    | 1, hj => simp at hj; subst hj; exact ⟨Tryd.underlying4, rfl, c4⟩
    | j + 2, hj => simp at hj) (by rw [c90]; rfl) he
  have e0 := congrArg (·[0]?) hcs
  have e1 := congrArg (·[1]?) hcs
  simp only [List.getElem?_take, List.getElem?_drop] at e0 e1
  constructor
  · rw [World.var?_cell n0 hvar (2 * i), ← Array.getElem?_toList]
    simpa [Nat.mul_comm] using e0
  · rw [World.var?_cell n0 hvar (2 * i + 1), ← Array.getElem?_toList]
    simpa [Nat.mul_comm] using e1
theorem accept_eq : (Rows.laid_unicode_utf8_acceptRanges : DataW Unit) = Lib.acceptData := by kernel_rfl
theorem first_eq : Rows.laid_unicode_utf8_first = Lib.firstData := by kernel_rfl
theorem glob_of_reads {W : World} (h1 : Lib.VarReads Tryd.prog W "unicode/utf8.first" Rows.laid_unicode_utf8_first) (h2 : Lib.VarReads Tryd.prog W "unicode/utf8.acceptRanges" Rows.laid_unicode_utf8_acceptRanges)
    (h3 : Lib.VarReads Tryd.prog W "epitome/span.kinds" Rows.laid_epitome_span_kinds) : Glob W := by
  rw [first_eq] at h1
  rw [accept_eq] at h2
  have k1 := kinds_of_reads h3 1 (by decide)
  have k2 := kinds_of_reads h3 2 (by decide)
  have k3 := kinds_of_reads h3 3 (by decide)
  exact ⟨k1.1, k1.2, k2.1, k2.2, k3.1, k3.2, utf8Tabs_of_readsT (Go.Proofs.U8Types.of196 Tryd.laysValid) ⟨by kernel_rfl, by kernel_rfl, by kernel_rfl, by kernel_rfl, by kernel_rfl, by kernel_rfl, by kernel_rfl⟩ h1 h2⟩
noncomputable def laidWorld (os : Os) : World :=
  let w0 := World.holding Tryd.prog os ⟨#[], #[], []⟩
  let put (h : Array Obj) (g : Nat) (cs : Array Value) : Array Obj := h.modify g fun
    | .cells _ t frozen => .cells cs t frozen
    | o => o
  let h1 := put w0.heap 0 #[.bool false, .bool false, .bool true, .bool true, .bool false, .bool false, .bool true, .bool false]
  let h2 := put h1 1 (Lib.firstTab.map fun z => Value.int .u8 z).toArray
  let h3 := put h2 2 ((List.range 16).flatMap fun i => [Value.int .u8 (Lib.accLo i), Value.int .u8 (Lib.accHi i)]).toArray
  { w0 with heap := h3 }
end Go.Proofs.YthhgobiaecehbaaDoor.F
end
