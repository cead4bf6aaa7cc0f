import Derived.Test.YtkgicpnnlkcaeaaDoorKZGapsAllF
import Derived.Below
import Derived.Deep.Draws
import Derived.Deep.AppendLies
import Derived.Maps.AppendAt
import Derived.OwnWalk
import Derived.Laws.BytesArg
import Derived.Laws.MakeOwn
import Derived.Laws.OwnMore
import Derived.Deep.OwnRows
import Derived.Tactics
import Derived.Lib.ConvBytes
import Derived.Laws.Slices
import Derived.WalkKit
import Derived.KernelRfl
import Derived.RowKit3
import Derived.Deep.LoopGhost
import Derived.Deep.QuietTactic
import Derived.BigQuiet
import Derived.WideLaws
import Derived.Deep.DeepCutAuto
import Derived.Deep.CutBlock
import Derived.Deep.RegionHeld3
import Derived.Laws.Rows
import Derived.Lib.AppendStr
import Derived.ArgAppend
import Derived.Laws.IdiomCopy
import Derived.RowKit
import Derived.OrdersHeld
import Derived.Laws.BitsLemmas
import Derived.Laws.StructEq
import Derived.Test.YtkgicpnnlkcaeaaDoorProg
import Derived.Handy
import Derived.Shelf.Unicode.DecodeSlow
import Derived.Ground.NamesProg
import Derived.Shelf.Unicode.ValidAny
import Derived.Maps.OwnOps
import Derived.Maps.Views
import Derived.Laws.RangeString
import Derived.Laws.RangeAny
import Derived.Lib.RuneCount
import Derived.Laws.IdiomStrings
import Derived.Laws.Cover4
import Derived.ProofKit
import Derived.OpenShut
import Derived.ShutString
import Derived.ChangeOld
import Derived.SizedLaws
import Derived.Lib.ValidLaws
import Derived.Test.YtkgicpnnlkcaeaaDoorRows
import Derived.Lib.LaidU8T
import Derived.Lib.LaidIn
import Derived.LaidLaws
section
namespace Go.Proofs.YtkgicpnnlkcaeaaDoor.F
open Go.RowKit Go.Proofs.YtkgicpnnlkcaeaaDoorW.PrintWords Go.Proofs.YtkgicpnnlkcaeaaDoorW.PrintLast Go.Proofs.YtkgicpnnlkcaeaaDoorW.PrintMore
set_option linter.unusedVariables false
set_option linter.unusedSimpArgs false
def Opens {α : Type} (P : Program) (t : TypeId) (d : Kd α) (V : α → Prop) : Prop :=
  ∀ {H : Type} (enc : TypeId × Value → H) (w : World) (base : Nat) (spare : Nat → Bool) (held : Bool) (fuel : Nat) (cs : List Value) (x : DataW H × List MemPlace),
    DataW.trod enc P w base spare held fuel t cs = some x → ∃ a : α, d.K w a cs ∧ V a
theorem opens_int {P : Program} {t : TypeId} {k : IntKind} (ht : P.underlying t = some (.int k)) : Opens P t (Kd.int k) (fun n => (Lit.int k n).wf = true) := by
  intro H enc w base spare held fuel cs x h
  obtain ⟨n, hc, _, hw⟩ := DataW.trod_int ht h
  exact ⟨n, hc, hw⟩
theorem opens_bool {P : Program} {t : TypeId} (ht : P.underlying t = some .bool) : Opens P t Kd.bool (fun _ => True) := by
  intro H enc w base spare held fuel cs x h
  obtain ⟨n, hc, _⟩ := DataW.trod_bool ht h
  exact ⟨n, hc, trivial⟩
theorem opens_string {P : Program} {t : TypeId} (ht : P.underlying t = some .string) : Opens P t Kd.string (fun s => s.size ≤ maxLen) := by
  intro H enc w base spare held fuel cs x h
  obtain ⟨s, hc, _, hs⟩ := DataW.trod_string ht h
  exact ⟨s, hc, hs⟩
theorem list_of_each {α : Type} (R : Nat → α → Prop) : ∀ n : Nat, (∀ i, i < n → ∃ x, R i x) → ∃ l : List α, l.length = n ∧ ∀ i x, l[i]? = some x → R i x
  | 0, _ => ⟨[], rfl, fun i x h => by simp at h⟩
  | n + 1, h => by
    obtain ⟨l, hl, hr⟩ := list_of_each R n (fun i hi => h i (by omega))
    obtain ⟨x, hx⟩ := h n (by omega)
    refine ⟨l ++ [x], by simp [hl], fun i y hy => ?_⟩
    rw [List.getElem?_append] at hy
    split at hy
    · exact hr i y hy
    · next hge =>
      have : i = n := by
        have := (List.getElem?_eq_some_iff.1 hy).1
        simp at this
        omega
      subst this
      simp [hl] at hy
      exact hy ▸ hx
theorem cells_each {w : World} {base : Nat} {a : Addr} {n : Nat} {cs : List Value} (h : w.cells? base a n = some cs) : cs.length = n ∧ ∀ i u, cs[i]? = some u → w.cell? (a.add i) = some u := by
  unfold World.cells? at h
  split at h
  · have hl : cs.length = n := by
      have := mapM_some_length h
      simpa using this
    exact ⟨hl, fun i u hu => by
      have hi : i < n := by have := (List.getElem?_eq_some_iff.1 hu).1; omega
      rw [mapM_some_get h i i (by simp [hi])]
      exact hu⟩
  · cases h
theorem add_add (a : Addr) (i j : Nat) : (a.add i).add j = a.add (i + j) := by
  by_cases hi : i = 0
  · subst hi; simp [Addr.add]
  · by_cases hj : j = 0
    · subst hj; simp [Addr.add]
    · simp [Addr.add, hi, hj, Nat.add_assoc]
theorem opens_slice {α : Type} {P : Program} {t e : TypeId} {d : Kd α} {V : α → Prop} (ht : P.underlying t = some (.slice e)) (hc : P.cellsOf e = d.sz) (h : Opens P e d V) :
    Opens P t (Kd.slice e d) (fun l => l.length ≤ maxLen ∧ ∀ x ∈ l, V x) := by
  intro H enc w base spare held fuel cs x hx
  rcases DataW.trod_slice ht hx with ⟨rfl, rfl⟩ | ⟨a, len, cap, elems, rest, n, _, rfl, rfl, hb, hl, hm, hlen, hel, _, _⟩
  · exact ⟨[], ⟨none, 0, rfl, Nat.le_refl _, Kd.C_nil _ _⟩, by simp, by simp⟩
  · have each : ∀ i, i < len → ∃ p : α, (∃ c, c.length = d.sz ∧ d.K w p c ∧ ∀ j u, c[j]? = some u → w.cell? (a.add (i * d.sz + j)) = some u) ∧ V p := by
      intro i hi
      have hi' := hel i hi
      have hs : elems[i]? = some (elems[i]'(by omega)) := List.getElem?_eq_getElem (by omega)
      rw [hs, Option.bind_eq_some_iff] at hi'
      obtain ⟨c, hcs, hy⟩ := hi'
      obtain ⟨p, hp, hv⟩ := h enc w base spare held n c _ hy
      obtain ⟨hcl, hce⟩ := cells_each hcs
      refine ⟨p, ⟨c, hcl.trans hc, hp, fun j u hu => ?_⟩, hv⟩
      have := hce j u hu
      rw [add_add, hc] at this
      exact this
    obtain ⟨l, hll, hlr⟩ := list_of_each _ len each
    have hm' : len ≤ 9223372036854775807 := by unfold maxLen at hm; omega
    refine ⟨l, ⟨some a, cap, by rw [hll], by omega, rfl, by omega, fun _ => ⟨a, rfl, fun j p hj => (hlr j p hj).1⟩⟩, by unfold maxLen at hm ⊢; omega, fun x hx => ?_⟩
    obtain ⟨j, hj⟩ := List.getElem?_of_mem hx
    exact (hlr j x hj).2
theorem agg_struct {P : Program} {w : World} {r : Reach} {base : Nat} {t : TypeId} {fs : Array Field} {v : Value} (ht : P.underlying t = some (.struct fs)) (h : Value.okWide P w r base t v) : ∃ cs, v = .agg cs := by
  simp only [Value.okWide, ht] at h
  obtain ⟨cs, rfl, _⟩ := h
  exact ⟨cs, rfl⟩
theorem arr_of {cs : Array Value} {l : List Value} (h : cs.toList = l) : cs = l.toArray := by
  subst h; simp
end Go.Proofs.YtkgicpnnlkcaeaaDoor.F
end
section
namespace Go.Proofs.YtkgicpnnlkcaeaaDoor.F
open Go.RowKit Go.Proofs.YtkgicpnnlkcaeaaDoorW.PrintWords Go.Proofs.YtkgicpnnlkcaeaaDoorW.PrintLast Go.Proofs.YtkgicpnnlkcaeaaDoorW.PrintMore
attribute [local go_sem] max2_int min2_int max_two min_two max_three min_three max_four min_four cell_setCell_isSome
set_option linter.unusedVariables false
set_option linter.unusedSimpArgs false
def V33 (x : S33) : Prop := ((Lit.int .i64 x.f0).wf = true) ∧ ((Lit.int .i64 x.f1).wf = true) ∧ (x.f2.size ≤ maxLen)
set_option maxRecDepth 10000 in
theorem opens33 : Opens Tryd.prog 33 k33 V33 := by
  intro H enc w base spare held fuel cs x h
  obtain ⟨xs, n, rfl, rfl, hlen, hxs, hf⟩ := DataW.trod_struct Tryd.underlying33 h
  have hl : cs.length = 3 := hlen.trans (by kernel_rfl)
  have hx : xs.length = 3 := hxs
  have h0 := hf 0 _ rfl
  rw [List.getElem?_eq_getElem (show 0 < xs.length by omega)] at h0
  obtain ⟨v0, k0, p0⟩ := (opens_int Tryd.underlying3) enc w base spare held n _ _ h0
  have h1 := hf 1 _ rfl
  rw [List.getElem?_eq_getElem (show 1 < xs.length by omega)] at h1
  obtain ⟨v1, k1, p1⟩ := (opens_int Tryd.underlying3) enc w base spare held n _ _ h1
  have h2 := hf 2 _ rfl
  rw [List.getElem?_eq_getElem (show 2 < xs.length by omega)] at h2
  obtain ⟨v2, k2, p2⟩ := (opens_string Tryd.underlying9) enc w base spare held n _ _ h2
  refine ⟨⟨v0, v1, v2⟩, ?_, ⟨p0, p1, p2⟩⟩
  have e2 : cs = (cs.drop 0).take 1 ++ ((cs.drop 1).take 1 ++ ((cs.drop 2).take 1)) := by
    match cs, hl with
    | [c0, c1, c2], _ => rfl
  rw [e2]
  exact ⟨_, _, rfl, (show ((Kd.int .i64)).K w _ ((cs.drop 0).take 1) from k0), ⟨_, _, rfl, (show ((Kd.int .i64)).K w _ ((cs.drop 1).take 1) from k1), (show (Kd.string).K w _ ((cs.drop 2).take 1) from k2)⟩⟩
def V28 (x : S28) : Prop := ((x.f0.length ≤ maxLen ∧ ∀ x_ ∈ x.f0, x_.size ≤ maxLen)) ∧ ((x.f1.length ≤ maxLen ∧ ∀ x_ ∈ x.f1, True))
set_option maxRecDepth 10000 in
theorem opens28 : Opens Tryd.prog 28 k28 V28 := by
  intro H enc w base spare held fuel cs x h
  obtain ⟨xs, n, rfl, rfl, hlen, hxs, hf⟩ := DataW.trod_struct Tryd.underlying28 h
  have hl : cs.length = 2 := hlen.trans (by kernel_rfl)
  have hx : xs.length = 2 := hxs
  have h0 := hf 0 _ rfl
  rw [List.getElem?_eq_getElem (show 0 < xs.length by omega)] at h0
  obtain ⟨v0, k0, p0⟩ := (opens_slice Tryd.underlying25 (by kernel_rfl) (opens_string Tryd.underlying9)) enc w base spare held n _ _ h0
  have h1 := hf 1 _ rfl
  rw [List.getElem?_eq_getElem (show 1 < xs.length by omega)] at h1
  obtain ⟨v1, k1, p1⟩ := (opens_slice Tryd.underlying26 (by kernel_rfl) (opens_bool Tryd.underlying4)) enc w base spare held n _ _ h1
  refine ⟨⟨v0, v1⟩, ?_, ⟨p0, p1⟩⟩
  have e2 : cs = (cs.drop 0).take 1 ++ ((cs.drop 1).take 1) := by
    match cs, hl with
    | [c0, c1], _ => rfl
  rw [e2]
  exact ⟨_, _, rfl, (show ((Kd.slice 9 Kd.string)).K w _ ((cs.drop 0).take 1) from k0), (show ((Kd.slice 4 Kd.bool)).K w _ ((cs.drop 1).take 1) from k1)⟩
end Go.Proofs.YtkgicpnnlkcaeaaDoor.F
end
section
namespace Go.Proofs.YtkgicpnnlkcaeaaDoor.F
open Go.RowKit Go.Proofs.YtkgicpnnlkcaeaaDoorW.PrintWords Go.Proofs.YtkgicpnnlkcaeaaDoorW.PrintLast Go.Proofs.YtkgicpnnlkcaeaaDoorW.PrintMore
set_option linter.unusedVariables false
set_option linter.unusedSimpArgs false
theorem ev_if_pos {α : Type} {c : Prop} [Decidable c] {g f : Nat → Option α} {r : α} (hc : c) (h : Ev g r) : Ev (fun k => if c then g k else f k) r := by
  simp only [if_pos hc]; exact h
theorem ev_if_neg {α : Type} {c : Prop} [Decidable c] {g f : Nat → Option α} {r : α} (hc : ¬ c) (h : Ev f r) : Ev (fun k => if c then g k else f k) r := by
  simp only [if_neg hc]; exact h
theorem ev_some {α β : Type} {g : Option α} {a : α} {f : Nat → α → Option β} {r : β} (hg : g = some a) (h : Ev (fun n => f n a) r) : Ev (fun n => g.bind (f n)) r := by
  subst hg; exact h
theorem w64 {x : Int} (h : -9223372036854775808 ≤ x) (h2 : x ≤ 9223372036854775807) : wrap64 x = x := by unfold wrap64; omega
theorem snoc_cases {α : Type} (l : List α) : l = [] ∨ ∃ q p, l = q ++ [p] := by
  rcases List.eq_nil_or_concat l with h | ⟨q, p, h⟩
  · exact .inl h
  · exact .inr ⟨q, p, by rw [h, List.concat_eq_append]⟩
end Go.Proofs.YtkgicpnnlkcaeaaDoor.F
end
section
namespace Go.Proofs.YtkgicpnnlkcaeaaDoor.F
open Go.RowKit Go.Proofs.YtkgicpnnlkcaeaaDoorW.PrintWords Go.Proofs.YtkgicpnnlkcaeaaDoorW.PrintLast Go.Proofs.YtkgicpnnlkcaeaaDoorW.PrintMore
set_option linter.unusedVariables false
set_option linter.unusedSimpArgs false
abbrev Sp := S33
deriving instance DecidableEq for S33
instance : DecidableEq Sp := inferInstanceAs (DecidableEq S33)
def emptyS (s : Sp) : Bool := decide (s.f1 = 0) && (s.f2.toList == [])
def joinS (a b : Sp) : Sp := ⟨a.f0, wrap64 (a.f1 + b.f1), a.f2 ++ b.f2⟩
def runs : Sp → List Sp → List Sp
  | c, [] => [c]
  | c, t :: r => if t.f0 = c.f0 then runs (joinS c t) r else c :: runs t r
def mergeS : List Sp → List Sp
  | [] => []
  | s :: r => runs s r
def norm (l : List Sp) : List Sp := mergeS (l.filter (fun s => !emptyS s))
def sizeS (l : List Sp) : Nat := (l.map (fun s => s.f2.size)).sum
theorem rdS_at {pre r : List Sp} {c : Sp} {i : Int} (h : i = pre.length) : rd_T33 (pre ++ c :: r) i = c := by
  subst h
  unfold rd_T33
  simp [List.getD_eq_getElem?_getD]
theorem setS_at {pre r : List Sp} {c d : Sp} {i : Int} (h : i = pre.length) : (pre ++ c :: r).set i.toNat d = pre ++ d :: r := by
  subst h
  simp [List.set_append]
theorem same_loop (a b : List Sp) (hl : a.length = b.length) (hm : a.length ≤ 4611686018427387904) : ∀ (r q pre pre2 : List Sp), a = pre ++ r → b = pre2 ++ q → pre.length = pre2.length →
    Ev (fun k => epitomeref04_Same.l0 k a b (pre.length : Int)) (decide (r = q))
  | [], q, pre, pre2, h1, h2, h3 => by
    have hq : q = [] := by
      have : q.length = 0 := by rw [h1, h2] at hl; simp at hl; omega
      exact List.eq_nil_of_length_eq_zero this
    refine Ev.step (f := fun _ => some true) (fun k => ?_) (by rw [hq]; exact Ev.now _)
    rw [epitomeref04_Same.l0, if_neg (by rw [h1]; simp)]
  | t :: r, [], pre, pre2, h1, h2, h3 => by
    rw [h1, h2] at hl
    simp at hl
    omega
  | t :: r, u :: q, pre, pre2, h1, h2, h3 => by
    have hlt : (pre.length : Int) < (a.length : Int) := by rw [h1]; simp <;> omega
    have ea : rd_T33 a (pre.length : Int) = t := by rw [h1]; exact rdS_at rfl
    have eb : rd_T33 b (pre.length : Int) = u := by rw [h2]; exact rdS_at (by rw [h3])
    have hc : ((!(t.f0 == u.f0) || (!(t.f1 == u.f1) || (!(t.f2.toList == u.f2.toList)))) = true) ↔ t ≠ u := by
      have hb : t.f2.toList = u.f2.toList ↔ t.f2 = u.f2 := by
        constructor
        · intro h
          rw [ByteArray.toList_eq, ByteArray.toList_eq] at h
          have := congrArg (fun l => (⟨l.toArray⟩ : ByteArray)) h
          exact ByteArray.ext (by simpa using this)
        · intro h; rw [h]
      obtain ⟨t0, t1, t2⟩ := t
      obtain ⟨u0, u1, u2⟩ := u
      simp at hb
      simp [hb]
      constructor
      · rintro (h | h | h) h2 h3 <;> simp_all
      · intro h
        by_cases h0 : t0 = u0
        · by_cases h1 : t1 = u1
          · exact .inr (.inr (fun h2 => h h0 h1 h2))
          · exact .inr (.inl h1)
        · exact .inl h0
    refine Ev.step (f := fun k => if t ≠ u then some false else epitomeref04_Same.l0 k a b (pre.length + 1 : Int)) (fun k => ?_) ?_
    · rw [epitomeref04_Same.l0, if_pos hlt, if_pos (by omega), if_pos (by rw [← hl]; exact hlt), ea, eb, w64 (by omega) (by omega)]
      by_cases h : t = u
      · rw [if_neg (fun hh => hc.1 hh h), if_neg (by simpa using h)]
      · rw [if_pos (hc.2 h), if_pos h]
    · by_cases h : t = u
      · refine ev_if_neg (by simpa using h) ?_
        have := same_loop a b hl hm r q (pre ++ [t]) (pre2 ++ [u]) (by simp [h1]) (by simp [h2]) (by simp [h3])
        simpa [h] using this
      · refine ev_if_pos h ?_
        have : decide (t :: r = u :: q) = false := by simp [h]
        rw [this]
        exact Ev.now _
theorem same_is (a b : List Sp) (hm : a.length ≤ 4611686018427387904) : Ev (fun k => epitomeref04_Same.f k a b) (decide (a = b)) := by
  unfold epitomeref04_Same.f
  by_cases h : (a.length : Int) = (b.length : Int)
  · refine ev_if_pos h ?_
    exact same_loop a b (by omega) hm a b [] [] rfl rfl rfl
  · refine ev_if_neg h ?_
    have : decide (a = b) = false := by
      rw [decide_eq_false_iff_not]
      intro e
      exact h (by rw [e])
    rw [this]
    exact Ev.now _
end Go.Proofs.YtkgicpnnlkcaeaaDoor.F
end
section
namespace Go.Proofs.YtkgicpnnlkcaeaaDoor.F
open Go.RowKit Go.Proofs.YtkgicpnnlkcaeaaDoorW.PrintWords Go.Proofs.YtkgicpnnlkcaeaaDoorW.PrintLast Go.Proofs.YtkgicpnnlkcaeaaDoorW.PrintMore
set_option linter.unusedVariables false
set_option linter.unusedSimpArgs false
def isRune (r : Int) : Prop := (0 ≤ r ∧ r < 55296) ∨ (57344 ≤ r ∧ r ≤ 1114111)
def enc1 (r : Int) : List Int :=
  if r < 128 then [r] else if r < 2048 then [192 + r / 64, 128 + r % 64]
  else if r < 65536 then [224 + r / 4096, 128 + r / 64 % 64, 128 + r % 64]
  else [240 + r / 262144, 128 + r / 4096 % 64, 128 + r / 64 % 64, 128 + r % 64]
def encB (l : List Int) : List Int := l.flatMap enc1
def encT (l : List Int) : ByteArray := strOfNums (encB l)
theorem enc1_length (r : Int) : 1 ≤ (enc1 r).length ∧ (enc1 r).length ≤ 4 := by
  unfold enc1
  split
  · simp
  · split
    · simp
    · split <;> simp
theorem encB_cons (r : Int) (l : List Int) : encB (r :: l) = enc1 r ++ encB l := by simp [encB]
theorem encB_append (a b : List Int) : encB (a ++ b) = encB a ++ encB b := by simp [encB]
theorem encB_length (l : List Int) : l.length ≤ (encB l).length ∧ (encB l).length ≤ 4 * l.length := by
  induction l with
  | nil => simp [encB]
  | cons r l ih =>
    have := enc1_length r
    rw [encB_cons]
    simp
    omega
theorem strOfNums_append (a b : List Int) : strOfNums (a ++ b) = strOfNums a ++ strOfNums b := by
  apply ByteArray.ext
  rw [ByteArray.data_append]
  simp [strOfNums]
theorem encT_append (a b : List Int) : encT (a ++ b) = encT a ++ encT b := by unfold encT; rw [encB_append, strOfNums_append]
theorem encT_nil : encT [] = ⟨#[]⟩ := rfl
theorem encT_size (l : List Int) : l.length ≤ (encT l).size ∧ (encT l).size ≤ 4 * l.length := by
  unfold encT
  rw [strOfNums_size]
  exact encB_length l
theorem encT_none (l : List Int) : (encT l).toList = [] ↔ l = [] := by
  rw [ByteArray.toList_eq]
  constructor
  · intro h
    have h2 := (encT_size l).1
    have : (encT l).size = 0 := by rw [← data_length, h]; rfl
    exact List.eq_nil_of_length_eq_zero (by omega)
  · rintro rfl
    rfl
def alpha : List Int := [97, 98, 99, 120, 121, 233, 8364, 128512]
end Go.Proofs.YtkgicpnnlkcaeaaDoor.F
end
section
namespace Go.Proofs.YtkgicpnnlkcaeaaDoor.F
open Go.RowKit Go.Proofs.YtkgicpnnlkcaeaaDoorW.PrintWords Go.Proofs.YtkgicpnnlkcaeaaDoorW.PrintLast Go.Proofs.YtkgicpnnlkcaeaaDoorW.PrintMore
set_option linter.unusedVariables false
set_option linter.unusedSimpArgs false
inductive Un where
  | keep (n : Nat)
  | put (l : List Int)
  | drop (n : Nat)
def Un.sp : Un → Sp
  | .keep n => ⟨1, n, ⟨#[]⟩⟩
  | .put l => ⟨2, 0, encT l⟩
  | .drop n => ⟨3, n, ⟨#[]⟩⟩
def Un.cin : Un → Nat
  | .keep n => n
  | .put _ => 0
  | .drop n => n
def Un.cout : Un → Nat
  | .keep n => n
  | .put l => l.length
  | .drop _ => 0
def Un.few : Un → Prop
  | .keep n => n ≤ 63
  | .put l => l.length ≤ 6 ∧ ∀ r ∈ l, r ∈ alpha
  | .drop n => n ≤ 63
theorem mn_le (a b : Int) : mn a b ≤ a ∧ mn a b ≤ b ∧ (mn a b = a ∨ mn a b = b) := by
  unfold mn
  split <;> omega
theorem extract_size (s : ByteArray) (n : Nat) : (s.extract 0 n).size ≤ n := by
  rw [ByteArray.size_extract]
  omega
end Go.Proofs.YtkgicpnnlkcaeaaDoor.F
end
section
namespace Go.Proofs.YtkgicpnnlkcaeaaDoor.F
open Go.RowKit Go.Proofs.YtkgicpnnlkcaeaaDoorW.PrintWords Go.Proofs.YtkgicpnnlkcaeaaDoorW.PrintLast Go.Proofs.YtkgicpnnlkcaeaaDoorW.PrintMore
set_option linter.unusedVariables false
set_option linter.unusedSimpArgs false
theorem joinS_assoc (a b c : Sp) : joinS (joinS a b) c = joinS a (joinS b c) := by
  unfold joinS
  have e : wrap64 (wrap64 (a.f1 + b.f1) + c.f1) = wrap64 (a.f1 + wrap64 (b.f1 + c.f1)) := by unfold wrap64; omega
  simp only [e, ByteArray.append_assoc]
theorem runs_head (r : List Sp) (c : Sp) : ∃ d q, runs c r = d :: q ∧ d.f0 = c.f0 := by
  induction r generalizing c with
  | nil => exact ⟨c, [], rfl, rfl⟩
  | cons t r ih =>
    rw [runs]
    split
    · obtain ⟨d, q, e, h⟩ := ih (joinS c t)
      exact ⟨d, q, e, h⟩
    · exact ⟨c, _, rfl, rfl⟩
theorem merge_runs_left (b : List Sp) : ∀ (a : List Sp) (c : Sp), mergeS (runs c a ++ b) = runs c (a ++ b)
  | [], c => rfl
  | t :: r, c => by
    rw [List.cons_append, runs, runs]
    by_cases h : t.f0 = c.f0
    · rw [if_pos h, if_pos h]
      exact merge_runs_left b r (joinS c t)
    · rw [if_neg h, if_neg h]
      obtain ⟨d, q, e, hd⟩ := runs_head r t
      have ih := merge_runs_left b r t
      rw [e] at ih ⊢
      show runs c (d :: (q ++ b)) = _
      rw [runs, if_neg (by rw [hd]; exact h), ← ih]
      rfl
theorem merge_idem (r : List Sp) (t : Sp) : mergeS (runs t r) = runs t r := by
  have := merge_runs_left [] r t
  simpa using this
theorem runs_runs : ∀ (r : List Sp) (t c : Sp), runs c (runs t r) = runs c (t :: r)
  | [], t, c => rfl
  | u :: r, t, c => by
    by_cases hu : u.f0 = t.f0
    · have e1 : runs t (u :: r) = runs (joinS t u) r := by rw [runs, if_pos hu]
      rw [e1, runs_runs r (joinS t u) c]
      by_cases ht : t.f0 = c.f0
      · have e2 : runs c (joinS t u :: r) = runs (joinS c (joinS t u)) r := by rw [runs, if_pos (show (joinS t u).f0 = c.f0 from ht)]
        have e3 : runs c (t :: u :: r) = runs (joinS (joinS c t) u) r := by rw [runs, if_pos ht, runs, if_pos (by show u.f0 = c.f0; rw [hu, ht])]
        rw [e2, e3, joinS_assoc]
      · have e2 : runs c (joinS t u :: r) = c :: runs (joinS t u) r := by rw [runs, if_neg (show ¬ (joinS t u).f0 = c.f0 from ht)]
        have e3 : runs c (t :: u :: r) = c :: runs (joinS t u) r := by rw [runs, if_neg ht, runs, if_pos hu]
        rw [e2, e3]
    · have e1 : runs t (u :: r) = t :: runs u r := by rw [runs, if_neg hu]
      rw [e1]
      by_cases ht : t.f0 = c.f0
      · rw [runs, if_pos ht, runs_runs r u (joinS c t), runs, runs, if_pos ht]
        rw [runs]
      · have e3 : runs c (t :: u :: r) = c :: t :: runs u r := by rw [runs, if_neg ht, runs, if_neg hu]
        rw [e3, runs, if_neg ht]
        have := merge_idem r u
        have h2 := runs_runs r u t
        rw [h2, runs, if_neg hu]
theorem runs_right (b : List Sp) : ∀ (a : List Sp) (c : Sp), runs c (a ++ mergeS b) = runs c (a ++ b)
  | [], c => by
    cases b with
    | nil => rfl
    | cons t r => exact runs_runs r t c
  | t :: a, c => by
    rw [List.cons_append, List.cons_append, runs, runs, runs_right b a, runs_right b a]
theorem merge_right (a b : List Sp) : mergeS (a ++ mergeS b) = mergeS (a ++ b) := by
  cases a with
  | nil =>
    cases b with
    | nil => rfl
    | cons t r => exact merge_idem r t
  | cons c a => exact runs_right b a c
theorem w64_succ (n : Nat) (h : n ≤ 4611686018427387904) : wrap64 ((n : Int) + 1) = ((n + 1 : Nat) : Int) := by
  rw [w64 (by omega) (by omega)]
  omega
end Go.Proofs.YtkgicpnnlkcaeaaDoor.F
end
section
namespace Go.Proofs.YtkgicpnnlkcaeaaDoor.F
open Go.RowKit Go.Proofs.YtkgicpnnlkcaeaaDoorW.PrintWords Go.Proofs.YtkgicpnnlkcaeaaDoorW.PrintLast Go.Proofs.YtkgicpnnlkcaeaaDoorW.PrintMore
set_option linter.unusedVariables false
set_option linter.unusedSimpArgs false
def encL (l : List Int) : List UInt8 := (encB l).map (fun n => UInt8.ofNat n.toNat)
theorem encT_list (l : List Int) : (encT l).data.toList = encL l := by unfold encT encL strOfNums; simp
theorem encL_cons (r : Int) (l : List Int) : encL (r :: l) = (enc1 r).map (fun n => UInt8.ofNat n.toNat) ++ encL l := by unfold encL; rw [encB_cons, List.map_append]
theorem u8n (n : Nat) (h : n < 256) : (UInt8.ofNat n).toNat = n := by simp [UInt8.toNat_ofNat']; omega
theorem enc1_nat (m : Nat) : (enc1 (m : Int)).map (fun n => UInt8.ofNat n.toNat) =
    if m < 128 then [UInt8.ofNat m] else if m < 2048 then [UInt8.ofNat (192 + m / 64), UInt8.ofNat (128 + m % 64)]
    else if m < 65536 then [UInt8.ofNat (224 + m / 4096), UInt8.ofNat (128 + m / 64 % 64), UInt8.ofNat (128 + m % 64)]
    else [UInt8.ofNat (240 + m / 262144), UInt8.ofNat (128 + m / 4096 % 64), UInt8.ofNat (128 + m / 64 % 64), UInt8.ofNat (128 + m % 64)] := by
  unfold enc1
  by_cases h1 : m < 128
  · rw [if_pos h1, if_pos (by omega)]; simp
  · rw [if_neg h1, if_neg (by omega)]
    by_cases h2 : m < 2048
    · rw [if_pos h2, if_pos (by omega)]
      simp only [List.map_cons, List.map_nil]
      rw [show (192 + (m : Int) / 64).toNat = 192 + m / 64 by omega, show (128 + (m : Int) % 64).toNat = 128 + m % 64 by omega]
    · rw [if_neg h2, if_neg (by omega)]
      by_cases h3 : m < 65536
      · rw [if_pos h3, if_pos (by omega)]
        simp only [List.map_cons, List.map_nil]
        rw [show (224 + (m : Int) / 4096).toNat = 224 + m / 4096 by omega, show (128 + (m : Int) / 64 % 64).toNat = 128 + m / 64 % 64 by omega, show (128 + (m : Int) % 64).toNat = 128 + m % 64 by omega]
      · rw [if_neg h3, if_neg (by omega)]
        simp only [List.map_cons, List.map_nil]
        rw [show (240 + (m : Int) / 262144).toNat = 240 + m / 262144 by omega, show (128 + (m : Int) / 4096 % 64).toNat = 128 + m / 4096 % 64 by omega, show (128 + (m : Int) / 64 % 64).toNat = 128 + m / 64 % 64 by omega, show (128 + (m : Int) % 64).toNat = 128 + m % 64 by omega]
theorem decode1 (m n : Nat) (b1 b2 b3 : Nat) (h : m < 128) : Lib.decodeN n m b1 b2 b3 = (m, 1) := by unfold Lib.decodeN; rw [if_pos h]
theorem decode2 (m n : Nat) (b2 b3 : Nat) (h : ¬ m < 128) (h2 : m < 2048) (hn : 2 ≤ n) : Lib.decodeN n (192 + m / 64) (128 + m % 64) b2 b3 = (m, 2) := by
  unfold Lib.decodeN
  rw [if_neg (by omega), if_pos ⟨by omega, by omega, by omega⟩, if_pos (by omega)]
  congr 1
  omega
theorem decode3 (m n : Nat) (b3 : Nat) (h2 : ¬ m < 2048) (h3 : m < 65536) (hv : m < 55296 ∨ 57344 ≤ m) (hn : 3 ≤ n) : Lib.decodeN n (224 + m / 4096) (128 + m / 64 % 64) (128 + m % 64) b3 = (m, 3) := by
  unfold Lib.decodeN
  have e : (224 + m / 4096) % 16 * 4096 + (128 + m / 64 % 64) % 64 * 64 + (128 + m % 64) % 64 = m := by omega
  rw [if_neg (by omega), if_neg (by omega), if_pos ⟨by omega, ⟨by omega, by omega⟩, by omega, by omega⟩, e, if_pos (by omega)]
theorem decode4 (m n : Nat) (h3 : ¬ m < 65536) (hv : m ≤ 1114111) (hn : 4 ≤ n) : Lib.decodeN n (240 + m / 262144) (128 + m / 4096 % 64) (128 + m / 64 % 64) (128 + m % 64) = (m, 4) := by
  unfold Lib.decodeN
  have e : (240 + m / 262144) % 8 * 262144 + (128 + m / 4096 % 64) % 64 * 4096 + (128 + m / 64 % 64) % 64 * 64 + (128 + m % 64) % 64 = m := by omega
  rw [if_neg (by omega), if_neg (by omega), if_neg (by omega), if_pos ⟨by omega, ⟨by omega, by omega⟩, ⟨by omega, by omega⟩, by omega, by omega⟩, e, if_pos (by omega)]
theorem decodeL_enc (r : Int) (h : isRune r) (rest : List UInt8) : Lib.decodeL ((enc1 r).map (fun n => UInt8.ofNat n.toNat) ++ rest) = (r.toNat, (enc1 r).length) := by
  have hr : ∃ m : Nat, r = (m : Int) := ⟨r.toNat, by unfold isRune at h; omega⟩
  obtain ⟨m, rfl⟩ := hr
  have hv : m < 55296 ∨ (57344 ≤ m ∧ m ≤ 1114111) := by unfold isRune at h; omega
  have hlen : (enc1 (m : Int)).length = if m < 128 then 1 else if m < 2048 then 2 else if m < 65536 then 3 else 4 := by
    have := congrArg List.length (enc1_nat m)
    rw [List.length_map] at this
    rw [this]
    split
    · rfl
    · split
      · rfl
      · split <;> rfl
  rw [enc1_nat m, hlen, Lib.decodeL_N, Int.toNat_natCast]
  by_cases h1 : m < 128
  · simp only [if_pos h1]
    have := decode1 m (1 + rest.length) (((UInt8.ofNat m :: rest).getD 1 0).toNat) (((UInt8.ofNat m :: rest).getD 2 0).toNat) (((UInt8.ofNat m :: rest).getD 3 0).toNat) h1
    simp only [List.cons_append, List.nil_append, List.length_cons, List.getD_cons_zero, u8n m (by omega)]
    exact decode1 _ _ _ _ _ h1
  · simp only [if_neg h1]
    by_cases h2 : m < 2048
    · simp only [if_pos h2, List.cons_append, List.nil_append, List.length_cons, List.getD_cons_zero, List.getD_cons_succ, u8n (192 + m / 64) (by omega), u8n (128 + m % 64) (by omega)]
      exact decode2 _ _ _ _ h1 h2 (by omega)
    · simp only [if_neg h2]
      by_cases h3 : m < 65536
      · simp only [if_pos h3, List.cons_append, List.nil_append, List.length_cons, List.getD_cons_zero, List.getD_cons_succ, u8n (224 + m / 4096) (by omega), u8n (128 + m / 64 % 64) (by omega), u8n (128 + m % 64) (by omega)]
        exact decode3 _ _ _ h2 h3 (by omega) (by omega)
      · simp only [if_neg h3, List.cons_append, List.nil_append, List.length_cons, List.getD_cons_zero, List.getD_cons_succ, u8n (240 + m / 262144) (by omega), u8n (128 + m / 4096 % 64) (by omega), u8n (128 + m / 64 % 64) (by omega), u8n (128 + m % 64) (by omega)]
        exact decode4 _ _ h3 (by omega) (by omega)
def Runes (l : List Int) : Prop := ∀ r ∈ l, isRune r
theorem Runes.cons {r : Int} {l : List Int} (h : Runes (r :: l)) : isRune r ∧ Runes l := ⟨h r (by simp), fun x hx => h x (by simp [hx])⟩
theorem Runes.append {a b : List Int} (ha : Runes a) (hb : Runes b) : Runes (a ++ b) := fun x hx => (List.mem_append.1 hx).elim (ha x) (hb x)
theorem Runes.take {a : List Int} (h : Runes a) (n : Nat) : Runes (a.take n) := fun x hx => h x (List.mem_of_mem_take hx)
theorem Runes.drop {a : List Int} (h : Runes a) (n : Nat) : Runes (a.drop n) := fun x hx => h x (List.mem_of_mem_drop hx)
theorem Runes.nil : Runes [] := fun x hx => by cases hx
theorem size_none : (⟨#[]⟩ : ByteArray).size = 0 := rfl
theorem encL_ne (r : Int) (l : List Int) : encL (r :: l) ≠ [] := by
  have := enc1_length r
  intro h
  have h2 := congrArg List.length h
  rw [encL_cons, List.length_append, List.length_map, List.length_nil] at h2
  omega
theorem drop_enc (r : Int) (l : List Int) : (encL (r :: l)).drop (enc1 r).length = encL l := by
  rw [encL_cons, List.drop_left' (by simp)]
theorem validD_enc : ∀ (l : List Int), Runes l → Lib.validD (encL l) = true
  | [], _ => rfl
  | r :: l, h => by
    obtain ⟨h1, h2⟩ := h.cons
    rw [Lib.validD_step _ (encL_ne r l)]
    have hd : Lib.decodeL (encL (r :: l)) = (r.toNat, (enc1 r).length) := by rw [encL_cons]; exact decodeL_enc r h1 _
    rw [hd, drop_enc, if_neg ?_]
    · exact validD_enc l h2
    · rintro ⟨e1, e2⟩
      have e1 : r.toNat = 65533 := e1
      have e2 : (enc1 r).length = 1 := e2
      have hr : r = 65533 := by unfold isRune at h1; omega
      subst hr
      simp [enc1] at e2
theorem decode_at_enc (a : List Int) (r : Int) (b : List Int) (h : isRune r) : Utf8.decode (encT (a ++ r :: b)) (encT a).size = (r.toNat, (enc1 r).length) := by
  have hd : (encT (a ++ r :: b)).data.toList.drop (encT a).size = encL (r :: b) := by
    rw [encT_list]
    unfold encL
    rw [encB_append, List.map_append, List.drop_left']
    rw [List.length_map]
    unfold encT
    rw [strOfNums_size]
  rw [← Lib.decodeL_drop, hd, encL_cons]
  exact decodeL_enc r h _
theorem encT_snoc_size (a : List Int) (r : Int) : (encT (a ++ [r])).size = (encT a).size + (enc1 r).length := by
  unfold encT
  rw [strOfNums_size, strOfNums_size, encB_append, List.length_append]
  simp [encB]
theorem encT_lt (a : List Int) (r : Int) (b : List Int) : (encT a).size < (encT (a ++ r :: b)).size := by
  have := (enc1_length r).1
  unfold encT
  rw [strOfNums_size, strOfNums_size, encB_append, List.length_append, encB_cons, List.length_append]
  omega
theorem big_enc {l : List Int} (h : l.length ≤ 1099511627776) : (encT l).size ≤ 4398046511104 := by
  have := (encT_size l).2
  omega
theorem validStr_enc (l : List Int) (h : Runes l) (hl : l.length ≤ 1099511627776) : points_Valid.f (encT l) = some true := by
  have := big_enc hl
  exact valid_some (by omega) (by rw [encT_list]; exact validD_enc l h)
end Go.Proofs.YtkgicpnnlkcaeaaDoor.F
end
section
namespace Go.Proofs.YtkgicpnnlkcaeaaDoor.F
open Go.RowKit Go.Proofs.YtkgicpnnlkcaeaaDoorW.PrintWords Go.Proofs.YtkgicpnnlkcaeaaDoorW.PrintLast Go.Proofs.YtkgicpnnlkcaeaaDoorW.PrintMore
set_option linter.unusedVariables false
set_option linter.unusedSimpArgs false
def Un.ok : Un → Prop
  | .put l => Runes l
  | _ => True
structure Ok (us : List Un) : Prop where
  ok : ∀ u ∈ us, u.ok
  len : us.length ≤ 2097152
  cin : (us.map Un.cin).sum ≤ 1048576
  cout : (us.map Un.cout).sum ≤ 1099511627776
theorem none_valid : points_Valid.f ⟨#[]⟩ = some true := validStr_enc [] Runes.nil (by simp)
theorem spanMay_keep (n : Nat) (k3 : Int) (hk : k3 = 1 ∨ k3 = 3) (h : n ≤ 1048576) : Ev (fun k => span_May.f k k3 (n : Int) ⟨#[]⟩) 0 := by
  have hv := none_valid
  have hn : (⟨#[]⟩ : ByteArray).toList = [] := by rw [ByteArray.toList_eq]
  have hd : decide ((n : Int) > 1048576) = false := by simp; omega
  have j2 : Ev (fun k => span_May.j2 k false k3 (n : Int) ⟨#[]⟩) 0 := by
    refine Ev.step (f := fun _ => some 0) (fun k => ?_) (Ev.now _)
    rw [span_May.j2, if_neg (by simp), hv]
    rfl
  have j1 : ∀ b, Ev (fun k => span_May.j1 k false k3 (n : Int) ⟨#[]⟩ true b) 0 := by
    intro b
    refine Ev.step (f := fun k => span_May.j2 k false k3 (n : Int) ⟨#[]⟩) (fun k => ?_) j2
    rw [span_May.j1, if_neg (by simp), if_pos rfl, hn]
    rfl
  have j0 : ∀ b, Ev (fun k => span_May.j0 k false k3 (n : Int) ⟨#[]⟩ true b) 0 := by
    intro b
    refine Ev.step (f := fun k => span_May.j1 k false k3 (n : Int) ⟨#[]⟩ true b) (fun k => ?_) (j1 b)
    rw [span_May.j0, if_neg (by simp), if_pos rfl]
  have hso : ∃ b, span_of.f k3 (n : Int) ⟨#[]⟩ = some (true, b, true) := by
    rcases hk with rfl | rfl
    · exact ⟨true, rfl⟩
    · exact ⟨false, rfl⟩
  obtain ⟨b, hso⟩ := hso
  unfold span_May.f
  refine ev_some hso (ev_if_pos rfl (ev_if_pos rfl (ev_if_neg (by omega) ?_)))
  rw [hd]
  exact j0 b
theorem spanMay_put (l : List Int) (hl : Runes l) (h : l.length ≤ 1099511627776) : Ev (fun k => span_May.f k 2 0 (encT l)) 0 := by
  have hv := validStr_enc l hl h
  have j2 : Ev (fun k => span_May.j2 k false 2 0 (encT l)) 0 := by
    refine Ev.step (f := fun _ => some 0) (fun k => ?_) (Ev.now _)
    rw [span_May.j2, if_neg (by simp), hv]
    rfl
  have j1 : Ev (fun k => span_May.j1 k false 2 0 (encT l) false false) 0 := by
    refine Ev.step (f := fun k => span_May.j2 k false 2 0 (encT l)) (fun k => ?_) j2
    rw [span_May.j1, if_neg (by simp), if_neg (by simp)]
  have j0 : Ev (fun k => span_May.j0 k false 2 0 (encT l) false false) 0 := by
    refine Ev.step (f := fun k => span_May.j1 k false 2 0 (encT l) false false) (fun k => ?_) j1
    rw [span_May.j0, if_neg (by simp), if_neg (by simp)]
    rfl
  unfold span_May.f
  exact ev_some (show span_of.f 2 0 (encT l) = some (false, false, true) from rfl) (ev_if_pos rfl (ev_if_neg (by simp) j0))
theorem spanMay_is (u : Un) (h : u.ok) (h1 : u.cin ≤ 1048576) (h2 : u.cout ≤ 1099511627776) : Ev (fun k => span_May.f k u.sp.f0 u.sp.f1 u.sp.f2) 0 := by
  cases u with
  | keep n => exact spanMay_keep n 1 (.inl rfl) h1
  | put l => exact spanMay_put l h h2
  | drop n => exact spanMay_keep n 3 (.inr rfl) h1
theorem spanIn_is (u : Un) : span_In.f u.sp.f0 u.sp.f1 u.sp.f2 = some (u.cin : Int) := by
  cases u <;> rfl
theorem rowSum_loop (l : List Un) (hl : l.length ≤ 2097152) (hc : (l.map Un.cin).sum ≤ 1048576) : ∀ (r pre : List Un), l = pre ++ r →
    Ev (fun k => op_row_sum.l0 k (((pre.map Un.cin).sum : Nat) : Int) (l.map Un.sp) ((l.map Un.sp).length : Int) (pre.length : Int)) (((l.map Un.cin).sum : Nat) : Int)
  | [], pre, h => by
    refine Ev.step (f := fun _ => some (((l.map Un.cin).sum : Nat) : Int)) (fun k => ?_) (Ev.now _)
    rw [op_row_sum.l0, if_neg (by subst h; simp)]
    subst h
    simp
  | u :: r, pre, h => by
    have hlt : (pre.length : Int) < ((l.map Un.sp).length : Int) := by subst h; simp <;> omega
    have hll : pre.length + (r.length + 1) = l.length := by subst h; simp
    have hrd : rd_T33 (l.map Un.sp) (pre.length : Int) = u.sp := by
      rw [h, List.map_append, List.map_cons]
      exact rdS_at (by simp)
    have hs : (l.map Un.cin).sum = (pre.map Un.cin).sum + (u.cin + (r.map Un.cin).sum) := by rw [h]; simp
    have ih := rowSum_loop l hl hc r (pre ++ [u]) (by simp [h])
    refine Ev.step (fun k => ?_) ih
    rw [op_row_sum.l0, if_pos hlt, if_pos (by omega), if_pos hlt, hrd, spanIn_is, Option.bind_some, w64_succ _ (by omega), w64 (by omega) (by omega)]
    simp
theorem opIn_is {us : List Un} (h : Ok us) : Ev (fun k => op_In.f k (us.map Un.sp)) (((us.map Un.cin).sum : Nat) : Int) := by
  unfold op_In.f op_row_sum.f
  have := rowSum_loop us h.len h.cin us [] rfl
  exact Ev.bind (by simpa using this) (Ev.now _)
theorem opMay_loop (l : List Un) (hl : Ok l) : ∀ (r pre : List Un), l = pre ++ r →
    Ev (fun k => op_May.l0 k (l.map Un.sp) (l.map Un.sp) ((l.map Un.sp).length : Int) (pre.length : Int)) 0
  | [], pre, h => by
    have hci := hl.cin
    refine Ev.step (f := fun k => _) (fun k => by rw [op_May.l0, if_neg (by subst h; simp)]) ?_
    refine Ev.bind (opIn_is hl) ?_
    exact ev_if_neg (by omega) (Ev.now 0)
  | u :: r, pre, h => by
    have hlt : (pre.length : Int) < ((l.map Un.sp).length : Int) := by subst h; simp <;> omega
    have hll : pre.length + (r.length + 1) = l.length := by subst h; simp
    have hle := hl.len
    have hco := hl.cout
    have hci := hl.cin
    have hrd : rd_T33 (l.map Un.sp) (pre.length : Int) = u.sp := by
      rw [h, List.map_append, List.map_cons]
      exact rdS_at (by simp)
    have hs : (l.map Un.cout).sum = (pre.map Un.cout).sum + (u.cout + (r.map Un.cout).sum) := by rw [h]; simp
    have hs2 : (l.map Un.cin).sum = (pre.map Un.cin).sum + (u.cin + (r.map Un.cin).sum) := by rw [h]; simp
    have ih := opMay_loop l hl r (pre ++ [u]) (by simp [h])
    refine Ev.step (f := fun k => _) (fun k => by rw [op_May.l0, if_pos hlt, if_pos (by omega), if_pos hlt, hrd, w64_succ _ (by omega)]) ?_
    refine Ev.bind (spanMay_is u (hl.ok u (by rw [h]; simp)) (by omega) (by omega)) (ev_if_pos rfl ?_)
    simpa using ih
theorem opMay_is {us : List Un} (h : Ok us) : Ev (fun k => op_May.f k (us.map Un.sp)) 0 := by
  unfold op_May.f
  exact opMay_loop us h us [] rfl
end Go.Proofs.YtkgicpnnlkcaeaaDoor.F
end
section
namespace Go.Proofs.YtkgicpnnlkcaeaaDoor.F
open Go.RowKit Go.Proofs.YtkgicpnnlkcaeaaDoorW.PrintWords Go.Proofs.YtkgicpnnlkcaeaaDoorW.PrintLast Go.Proofs.YtkgicpnnlkcaeaaDoorW.PrintMore
set_option linter.unusedVariables false
set_option linter.unusedSimpArgs false
theorem runs_length : ∀ (r : List Sp) (c : Sp), (runs c r).length ≤ r.length + 1
  | [], c => by simp [runs]
  | t :: r, c => by
    rw [runs]
    split
    · have := runs_length r (joinS c t); simp; omega
    · have := runs_length r t; simp; omega
theorem norm_length (l : List Sp) : (norm l).length ≤ l.length := by
  unfold norm
  have := List.length_filter_le (fun s => !emptyS s) l
  generalize l.filter (fun s => !emptyS s) = f at *
  cases f with
  | nil => simp [mergeS]
  | cons s r => have := runs_length r s; simp [mergeS] at *; omega
end Go.Proofs.YtkgicpnnlkcaeaaDoor.F
end
section
namespace Go.Proofs.YtkgicpnnlkcaeaaDoor.F
open Go.RowKit Go.Proofs.YtkgicpnnlkcaeaaDoorW.PrintWords Go.Proofs.YtkgicpnnlkcaeaaDoorW.PrintLast Go.Proofs.YtkgicpnnlkcaeaaDoorW.PrintMore
set_option linter.unusedVariables false
set_option linter.unusedSimpArgs false
inductive U where
  | k
  | d
  | p (r : Int)
deriving DecidableEq
def Un.ex : Un → List U
  | .keep n => List.replicate n .k
  | .put l => l.map .p
  | .drop n => List.replicate n .d
def exU (us : List Un) : List U := us.flatMap Un.ex
theorem exU_cons (u : Un) (us : List Un) : exU (u :: us) = u.ex ++ exU us := by simp [exU]
def consU : U → List Un → List Un
  | .k, .keep n :: r => .keep (n + 1) :: r
  | .d, .drop n :: r => .drop (n + 1) :: r
  | .p c, .put l :: r => .put (c :: l) :: r
  | .k, r => .keep 1 :: r
  | .d, r => .drop 1 :: r
  | .p c, r => .put [c] :: r
def canon (x : List U) : List Un := x.foldr consU []
theorem canon_cons (u : U) (x : List U) : canon (u :: x) = consU u (canon x) := rfl
theorem canon_append (a b : List U) : canon (a ++ b) = a.foldr consU (canon b) := by unfold canon; rw [List.foldr_append]
theorem ex_consU (u : U) (c : List Un) : exU (consU u c) = u :: exU c := by
  cases u <;> rcases c with _ | ⟨v, r⟩ <;> first | rfl | (cases v <;> first | rfl | simp [consU, exU, Un.ex, List.replicate_succ])
theorem ex_canon : ∀ x : List U, exU (canon x) = x
  | [] => rfl
  | u :: x => by rw [canon_cons, ex_consU, ex_canon x]
def consUn : Un → List Un → List Un
  | .keep 0, c => c
  | .drop 0, c => c
  | .put [], c => c
  | .keep (n + 1), .keep m :: r => .keep (n + 1 + m) :: r
  | .drop (n + 1), .drop m :: r => .drop (n + 1 + m) :: r
  | .put (a :: l), .put m :: r => .put (a :: l ++ m) :: r
  | .keep (n + 1), c => .keep (n + 1) :: c
  | .drop (n + 1), c => .drop (n + 1) :: c
  | .put (a :: l), c => .put (a :: l) :: c
theorem foldr_keep : ∀ (n : Nat) (c : List Un), (List.replicate n U.k).foldr consU c = consUn (.keep n) c
  | 0, c => rfl
  | n + 1, c => by
    rw [List.replicate_succ, List.foldr_cons, foldr_keep n c]
    cases n with
    | zero => rcases c with _ | ⟨v, r⟩ <;> first | rfl | (cases v <;> first | rfl | simp [consUn, consU, Nat.add_comm])
    | succ n => rcases c with _ | ⟨v, r⟩ <;> first | rfl | (cases v <;> first | rfl | (simp only [consUn, consU]; congr 2; omega))
theorem foldr_drop : ∀ (n : Nat) (c : List Un), (List.replicate n U.d).foldr consU c = consUn (.drop n) c
  | 0, c => rfl
  | n + 1, c => by
    rw [List.replicate_succ, List.foldr_cons, foldr_drop n c]
    cases n with
    | zero => rcases c with _ | ⟨v, r⟩ <;> first | rfl | (cases v <;> first | rfl | simp [consUn, consU, Nat.add_comm])
    | succ n => rcases c with _ | ⟨v, r⟩ <;> first | rfl | (cases v <;> first | rfl | (simp only [consUn, consU]; congr 2; omega))
theorem foldr_put : ∀ (l : List Int) (c : List Un), (l.map U.p).foldr consU c = consUn (.put l) c
  | [], c => rfl
  | a :: l, c => by
    rw [List.map_cons, List.foldr_cons, foldr_put l c]
    cases l with
    | nil => rcases c with _ | ⟨v, r⟩ <;> first | rfl | (cases v <;> rfl)
    | cons b l => rcases c with _ | ⟨v, r⟩ <;> first | rfl | (cases v <;> rfl)
theorem canon_un (u : Un) (x : List U) : canon (u.ex ++ x) = consUn u (canon x) := by
  rw [canon_append]
  cases u with
  | keep n => exact foldr_keep n _
  | put l => exact foldr_put l _
  | drop n => exact foldr_drop n _
def cinU : List U → Nat
  | [] => 0
  | .p _ :: x => cinU x
  | _ :: x => cinU x + 1
def coutU : List U → Nat
  | [] => 0
  | .d :: x => coutU x
  | _ :: x => coutU x + 1
theorem cinU_append : ∀ a b : List U, cinU (a ++ b) = cinU a + cinU b
  | [], b => by simp [cinU]
  | u :: a, b => by cases u <;> simp [cinU, cinU_append a b] <;> omega
theorem coutU_append : ∀ a b : List U, coutU (a ++ b) = coutU a + coutU b
  | [], b => by simp [coutU]
  | u :: a, b => by cases u <;> simp [coutU, coutU_append a b] <;> omega
theorem cinU_un (u : Un) : cinU u.ex = u.cin := by
  cases u with
  | keep n => induction n with
    | zero => rfl
    | succ n ih => simp only [Un.ex, List.replicate_succ, cinU, Un.cin] at *; omega
  | put l => induction l with
    | nil => rfl
    | cons a l ih => simp only [Un.ex, List.map_cons, cinU, Un.cin] at *; omega
  | drop n => induction n with
    | zero => rfl
    | succ n ih => simp only [Un.ex, List.replicate_succ, cinU, Un.cin] at *; omega
theorem coutU_un (u : Un) : coutU u.ex = u.cout := by
  cases u with
  | keep n => induction n with
    | zero => rfl
    | succ n ih => simp only [Un.ex, List.replicate_succ, coutU, Un.cout] at *; omega
  | put l => induction l with
    | nil => rfl
    | cons a l ih => simp only [Un.ex, List.map_cons, coutU, Un.cout, List.length_cons] at *; omega
  | drop n => induction n with
    | zero => rfl
    | succ n ih => simp only [Un.ex, List.replicate_succ, coutU, Un.cout] at *; omega
theorem cinU_ex : ∀ us : List Un, cinU (exU us) = (us.map Un.cin).sum
  | [] => rfl
  | u :: us => by rw [exU_cons, cinU_append, cinU_un, cinU_ex us]; simp
theorem coutU_ex : ∀ us : List Un, coutU (exU us) = (us.map Un.cout).sum
  | [] => rfl
  | u :: us => by rw [exU_cons, coutU_append, coutU_un, coutU_ex us]; simp
theorem bb_none : (⟨#[]⟩ : ByteArray) ++ (⟨#[]⟩ : ByteArray) = ⟨#[]⟩ := by
  apply ByteArray.ext
  simp [ByteArray.data_append]
theorem runs_kind {t c : Sp} {r : List Sp} (h : runs t r = t :: r) (hk : c.f0 = t.f0) : runs c r = c :: r := by
  rcases r with _ | ⟨u, r⟩
  · rfl
  · rw [runs] at h ⊢
    by_cases hu : u.f0 = t.f0
    · rw [if_pos hu] at h
      have := congrArg List.length h
      have h2 := runs_length r (joinS t u)
      simp at this
      omega
    · rw [if_neg hu] at h
      rw [if_neg (by rw [hk]; exact hu)]
      injection h with _ h
      rw [h]
theorem norm_cons (s : Sp) (l : List Sp) : norm (s :: l) = if emptyS s = true then norm l else match norm l with
    | [] => [s]
    | t :: r => if t.f0 = s.f0 then joinS s t :: r else s :: t :: r := by
  cases he : emptyS s with
  | true => simp [norm, he]
  | false =>
    have e : norm (s :: l) = runs s (norm l) := by
      have h1 : norm (s :: l) = mergeS ([s] ++ l.filter (fun s => !emptyS s)) := by simp [norm, he]
      rw [h1, ← merge_right]
      rfl
    rw [e, if_neg (by simp)]
    generalize hn : norm l = m
    rcases m with _ | ⟨t, r⟩
    · rfl
    · have hm : runs t r = t :: r := by
        have : mergeS (t :: r) = t :: r := by
          rw [← hn]
          unfold norm
          generalize l.filter (fun s => !emptyS s) = f
          rcases f with _ | ⟨a, f⟩
          · rfl
          · exact merge_idem f a
        exact this
      simp only
      rw [runs]
      by_cases hk : t.f0 = s.f0
      · rw [if_pos hk, if_pos hk]
        exact runs_kind hm hk.symm
      · rw [if_neg hk, if_neg hk, hm]
theorem empty_keep (n : Nat) : emptyS (Un.keep n).sp = decide (n = 0) := by
  unfold emptyS Un.sp
  have : (⟨#[]⟩ : ByteArray).toList = [] := by rw [ByteArray.toList_eq]
  simp [this]
theorem empty_drop (n : Nat) : emptyS (Un.drop n).sp = decide (n = 0) := by
  unfold emptyS Un.sp
  have : (⟨#[]⟩ : ByteArray).toList = [] := by rw [ByteArray.toList_eq]
  simp [this]
theorem empty_put (l : List Int) : emptyS (Un.put l).sp = decide (l = []) := by
  unfold emptyS Un.sp
  have := encT_none l
  by_cases h : l = [] <;> simp [h, this]
  rw [ByteArray.toList_eq, encT_nil]
theorem join_keep (n m : Nat) (h : n + m ≤ 4611686018427387904) : joinS (Un.keep n).sp (Un.keep m).sp = (Un.keep (n + m)).sp := by
  unfold joinS Un.sp
  simp only [bb_none]
  rw [w64 (by omega) (by omega)]
  congr 1
theorem join_drop (n m : Nat) (h : n + m ≤ 4611686018427387904) : joinS (Un.drop n).sp (Un.drop m).sp = (Un.drop (n + m)).sp := by
  unfold joinS Un.sp
  simp only [bb_none]
  rw [w64 (by omega) (by omega)]
  congr 1
theorem join_put (a b : List Int) : joinS (Un.put a).sp (Un.put b).sp = (Un.put (a ++ b)).sp := by
  unfold joinS Un.sp
  simp only
  rw [encT_append]
  have : wrap64 (0 + 0) = 0 := by unfold wrap64; rfl
  rw [this]
theorem norm_ex : ∀ us : List Un, (us.map Un.cin).sum ≤ 4611686018427387904 → norm (us.map Un.sp) = (canon (exU us)).map Un.sp
  | [], _ => rfl
  | u :: us, h => by
    simp only [List.map_cons, List.sum_cons] at h
    have ih := norm_ex us (by omega)
    have hc : ((canon (exU us)).map Un.cin).sum = (us.map Un.cin).sum := by rw [← cinU_ex, ex_canon, cinU_ex]
    rw [List.map_cons, norm_cons, ih, exU_cons, canon_un]
    generalize canon (exU us) = c at hc
    cases u with
    | keep n =>
      rw [empty_keep]
      cases n with
      | zero => rfl
      | succ n =>
        rw [if_neg (by simp)]
        rcases c with _ | ⟨v, r⟩
        · rfl
        · cases v with
          | keep m =>
            simp only [List.map_cons, List.sum_cons, Un.cin] at hc h
            have := join_keep (n + 1) m (by omega)
            simp only [consUn, List.map_cons]
            rw [if_pos (by rfl), this]
          | put m => simp only [consUn, List.map_cons]; rw [if_neg (by simp [Un.sp])]
          | drop m => simp only [consUn, List.map_cons]; rw [if_neg (by simp [Un.sp])]
    | drop n =>
      rw [empty_drop]
      cases n with
      | zero => rfl
      | succ n =>
        rw [if_neg (by simp)]
        rcases c with _ | ⟨v, r⟩
        · rfl
        · cases v with
          | drop m =>
            simp only [List.map_cons, List.sum_cons, Un.cin] at hc h
            have := join_drop (n + 1) m (by omega)
            simp only [consUn, List.map_cons]
            rw [if_pos (by rfl), this]
          | put m => simp only [consUn, List.map_cons]; rw [if_neg (by simp [Un.sp])]
          | keep m => simp only [consUn, List.map_cons]; rw [if_neg (by simp [Un.sp])]
    | put l =>
      rw [empty_put]
      cases l with
      | nil => rfl
      | cons a l =>
        rw [if_neg (by simp)]
        rcases c with _ | ⟨v, r⟩
        · rfl
        · cases v with
          | put m =>
            have := join_put (a :: l) m
            simp only [consUn, List.map_cons]
            rw [if_pos (by rfl), this]
          | keep m => simp only [consUn, List.map_cons]; rw [if_neg (by simp [Un.sp])]
          | drop m => simp only [consUn, List.map_cons]; rw [if_neg (by simp [Un.sp])]
end Go.Proofs.YtkgicpnnlkcaeaaDoor.F
end
section
namespace Go.Proofs.YtkgicpnnlkcaeaaDoor.F
open Go.RowKit Go.Proofs.YtkgicpnnlkcaeaaDoorW.PrintWords Go.Proofs.YtkgicpnnlkcaeaaDoorW.PrintLast Go.Proofs.YtkgicpnnlkcaeaaDoorW.PrintMore
set_option linter.unusedVariables false
set_option linter.unusedSimpArgs false
def preq (q : List Int) : List (List Int) → List (List Int)
  | [] => [q]
  | p :: ps => (q ++ p) :: ps
def gpP : List U → List (List Int)
  | [] => [[]]
  | .p r :: x => preq [r] (gpP x)
  | .k :: x => [] :: gpP x
  | .d :: x => [] :: gpP x
def gpG : List U → List Bool
  | [] => []
  | .p _ :: x => gpG x
  | .k :: x => false :: gpG x
  | .d :: x => true :: gpG x
def ug (g : Bool) : U := if g = true then .d else .k
def ungp : List (List Int) → List Bool → List U
  | [], _ => []
  | p :: _, [] => p.map .p
  | p :: ps, g :: gs => p.map .p ++ ug g :: ungp ps gs
theorem gpP_ne (x : List U) : gpP x ≠ [] := by
  cases x with
  | nil => simp [gpP]
  | cons u x => cases u <;> simp [gpP, preq] <;> (split <;> simp)
theorem preq_nil {ps : List (List Int)} (h : ps ≠ []) : preq [] ps = ps := by
  cases ps with
  | nil => exact absurd rfl h
  | cons p ps => rfl
theorem preq_preq (a b : List Int) (ps : List (List Int)) : preq a (preq b ps) = preq (a ++ b) ps := by cases ps <;> simp [preq]
theorem preq_length {ps : List (List Int)} (q : List Int) (h : ps ≠ []) : (preq q ps).length = ps.length := by
  cases ps with
  | nil => exact absurd rfl h
  | cons p ps => rfl
theorem gpG_length : ∀ x : List U, (gpG x).length = cinU x
  | [] => rfl
  | .p _ :: x => gpG_length x
  | .k :: x => by simp [gpG, cinU, gpG_length x]
  | .d :: x => by simp [gpG, cinU, gpG_length x]
theorem gpP_length : ∀ x : List U, (gpP x).length = cinU x + 1
  | [] => rfl
  | .p _ :: x => by rw [gpP, preq_length _ (gpP_ne x)]; exact gpP_length x
  | .k :: x => by simp [gpP, cinU, gpP_length x]
  | .d :: x => by simp [gpP, cinU, gpP_length x]
theorem gpP_put (p : List Int) (x : List U) : gpP (p.map .p ++ x) = preq p (gpP x) := by
  induction p with
  | nil => exact (preq_nil (gpP_ne x)).symm
  | cons r p ih => rw [List.map_cons, List.cons_append, gpP, ih, preq_preq]; rfl
theorem gpG_put (p : List Int) (x : List U) : gpG (p.map .p ++ x) = gpG x := by
  induction p with
  | nil => rfl
  | cons r p ih => rw [List.map_cons, List.cons_append, gpG, ih]
theorem gpP_keep : ∀ (n : Nat) (x : List U), gpP (List.replicate n .k ++ x) = List.replicate n [] ++ gpP x
  | 0, x => by simp
  | n + 1, x => by rw [List.replicate_succ, List.cons_append, gpP, gpP_keep n x, List.replicate_succ, List.cons_append]
theorem gpP_drop : ∀ (n : Nat) (x : List U), gpP (List.replicate n .d ++ x) = List.replicate n [] ++ gpP x
  | 0, x => by simp
  | n + 1, x => by rw [List.replicate_succ, List.cons_append, gpP, gpP_drop n x, List.replicate_succ, List.cons_append]
theorem gpG_keep : ∀ (n : Nat) (x : List U), gpG (List.replicate n .k ++ x) = List.replicate n false ++ gpG x
  | 0, x => by simp
  | n + 1, x => by rw [List.replicate_succ, List.cons_append, gpG, gpG_keep n x, List.replicate_succ, List.cons_append]
theorem gpG_drop : ∀ (n : Nat) (x : List U), gpG (List.replicate n .d ++ x) = List.replicate n true ++ gpG x
  | 0, x => by simp
  | n + 1, x => by rw [List.replicate_succ, List.cons_append, gpG, gpG_drop n x, List.replicate_succ, List.cons_append]
def cells (B : List (List Int)) (q : List Int) (m : Nat) : List ByteArray := (B ++ q :: List.replicate m []).map encT
theorem cells_get (B : List (List Int)) (q : List Int) (m : Nat) : (cells B q m).getD B.length ⟨#[]⟩ = encT q := by
  unfold cells
  simp [List.getD_eq_getElem?_getD]
theorem cells_set (B : List (List Int)) (q p : List Int) (m : Nat) : (cells B q m).set B.length (encT p) = cells B p m := by
  unfold cells
  simp [List.set_append]
theorem cells_more (B : List (List Int)) (q : List Int) (n m : Nat) (h : n + 1 ≤ m) : cells B q m = cells (B ++ q :: List.replicate n []) [] (m - (n + 1)) := by
  unfold cells
  congr 1
  have e : List.replicate m ([] : List Int) = List.replicate n [] ++ [] :: List.replicate (m - (n + 1)) [] := by
    rw [← List.replicate_succ, List.replicate_append_replicate]
    congr 1
    omega
  rw [e]
  simp
theorem fill_at (C G : List Bool) (n : Nat) (b : Bool) : fillG (C ++ G) C.length n b = C ++ (List.replicate n b ++ G.drop n) := by
  unfold fillG
  simp [List.drop_append]
theorem bytes_none (s : ByteArray) : s ++ ⟨#[]⟩ = s := by
  apply ByteArray.ext
  simp [ByteArray.data_append]
theorem gapsL_is : ∀ (us : List Un) (B : List (List Int)) (q : List Int) (m : Nat) (C G : List Bool), C.length = B.length → B.length + (us.map Un.cin).sum ≤ 512 → (us.map Un.cin).sum ≤ m → (us.map Un.cin).sum ≤ G.length →
    q.length + (us.map Un.cout).sum ≤ 1099511627776 →
    ∃ m' G', gapsL (us.map Un.sp) B.length (cells B q m) (C ++ G) = some ((B ++ preq q (gpP (exU us)) ++ List.replicate m' []).map encT, C ++ gpG (exU us) ++ G')
  | [], B, q, m, C, G, hC, h1, h2, h3, h4 => ⟨m, G, by simp [gapsL, cells, exU, gpP, gpG, preq]⟩
  | u :: us, B, q, m, C, G, hC, h1, h2, h3, h4 => by
    simp only [List.map_cons, List.sum_cons] at h1 h2 h3 h4
    have hsz := (encT_size q).2
    cases u with
    | put l =>
      have h1 : B.length + (0 + (us.map Un.cin).sum) ≤ 512 := h1
      have h2 : 0 + (us.map Un.cin).sum ≤ m := h2
      have h3 : 0 + (us.map Un.cin).sum ≤ G.length := h3
      have h4 : q.length + (l.length + (us.map Un.cout).sum) ≤ 1099511627776 := h4
      have hl := (encT_size l).2
      obtain ⟨m', G', ih⟩ := gapsL_is us B (q ++ l) m C G hC (by omega) (by omega) (by omega) (by simp; omega)
      refine ⟨m', G', ?_⟩
      rw [List.map_cons, gapsL, cells_get]
      rw [show (Un.put l).sp.f1.toNat = 0 from rfl, show (Un.put l).sp.f2 = encT l from rfl, if_pos (by omega), ← encT_append, cells_set, ← hC, fill_at, hC]
      simp only [Nat.add_zero, List.replicate_zero, List.nil_append, List.drop_zero]
      rw [ih, exU_cons]
      rw [show (Un.put l).ex = l.map .p from rfl, gpP_put, gpG_put, preq_preq]
    | keep n =>
      have h1 : B.length + (n + (us.map Un.cin).sum) ≤ 512 := h1
      have h2 : n + (us.map Un.cin).sum ≤ m := h2
      have h3 : n + (us.map Un.cin).sum ≤ G.length := h3
      have h4 : q.length + (n + (us.map Un.cout).sum) ≤ 1099511627776 := h4
      rw [List.map_cons, gapsL, cells_get]
      rw [show (Un.keep n).sp.f1.toNat = n from Int.toNat_natCast n, show (Un.keep n).sp.f2 = ⟨#[]⟩ from rfl, if_pos ⟨by omega, by rw [size_none]; omega⟩, bytes_none, cells_set, ← hC, fill_at, hC, exU_cons]
      rw [show (Un.keep n).ex = List.replicate n .k from rfl, gpP_keep, gpG_keep, show ((Un.keep n).sp.f0 == 3) = false from rfl]
      cases n with
      | zero =>
        obtain ⟨m', G', ih⟩ := gapsL_is us B q m C G hC (by omega) (by omega) (by omega) (by omega)
        exact ⟨m', G', by simpa using ih⟩
      | succ n =>
        obtain ⟨m', G', ih⟩ := gapsL_is us (B ++ q :: List.replicate n []) [] (m - (n + 1)) (C ++ List.replicate (n + 1) false) (G.drop (n + 1)) (by simp [hC]) (by simp; omega) (by omega) (by rw [List.length_drop]; omega) (by simp; omega)
        refine ⟨m', G', ?_⟩
        rw [cells_more _ _ n m (by omega)]
        rw [preq_nil (gpP_ne _)] at ih
        have e : B.length + (n + 1) = (B ++ q :: List.replicate n ([] : List Int)).length := by simp
        rw [e, ← List.append_assoc, ih]
        simp [List.replicate_succ, preq]
    | drop n =>
      have h1 : B.length + (n + (us.map Un.cin).sum) ≤ 512 := h1
      have h2 : n + (us.map Un.cin).sum ≤ m := h2
      have h3 : n + (us.map Un.cin).sum ≤ G.length := h3
      have h4 : q.length + (0 + (us.map Un.cout).sum) ≤ 1099511627776 := h4
      rw [List.map_cons, gapsL, cells_get]
      rw [show (Un.drop n).sp.f1.toNat = n from Int.toNat_natCast n, show (Un.drop n).sp.f2 = ⟨#[]⟩ from rfl, if_pos ⟨by omega, by rw [size_none]; omega⟩, bytes_none, cells_set, ← hC, fill_at, hC, exU_cons]
      rw [show (Un.drop n).ex = List.replicate n .d from rfl, gpP_drop, gpG_drop, show ((Un.drop n).sp.f0 == 3) = true from rfl]
      cases n with
      | zero =>
        obtain ⟨m', G', ih⟩ := gapsL_is us B q m C G hC (by omega) (by omega) (by omega) (by omega)
        exact ⟨m', G', by simpa using ih⟩
      | succ n =>
        obtain ⟨m', G', ih⟩ := gapsL_is us (B ++ q :: List.replicate n []) [] (m - (n + 1)) (C ++ List.replicate (n + 1) true) (G.drop (n + 1)) (by simp [hC]) (by simp; omega) (by omega) (by rw [List.length_drop]; omega) (by simp; omega)
        refine ⟨m', G', ?_⟩
        rw [cells_more _ _ n m (by omega)]
        rw [preq_nil (gpP_ne _)] at ih
        have e : B.length + (n + 1) = (B ++ q :: List.replicate n ([] : List Int)).length := by simp
        rw [e, ← List.append_assoc, ih]
        simp [List.replicate_succ, preq]
theorem gapsOf_is {us : List Un} (h : Ok us) (h5 : (us.map Un.cin).sum ≤ 512) : Ev (fun k => gaps_Of.f k (us.map Un.sp)) ((gpP (exU us)).map encT, gpG (exU us), 0) := by
  have hco := h.cout
  unfold gaps_Of.f
  refine Ev.bind (opMay_is h) (ev_if_pos rfl ?_)
  refine Ev.bind (opIn_is h) (ev_if_neg (by omega) (ev_if_pos (by omega) ?_))
  obtain ⟨m', G', e⟩ := gapsL_is us [] [] 512 [] (List.replicate 512 false) rfl (by rw [List.length_nil]; omega) h5 (by rw [List.length_replicate]; exact h5) (by rw [List.length_nil]; omega)
  have e1 : cells [] [] 512 = List.replicate 513 ⟨#[]⟩ := by
    unfold cells
    rw [List.nil_append, ← List.replicate_succ, List.map_replicate, encT_nil]
  rw [e1] at e
  simp only [List.length_nil, List.nil_append] at e
  rw [preq_nil (gpP_ne _)] at e
  refine ev_some e ?_
  rw [Int.toNat_natCast]
  have l1 : ((gpP (exU us)).map encT).length = (us.map Un.cin).sum + 1 := by rw [List.length_map, gpP_length, cinU_ex]
  have l2 : (gpG (exU us)).length = (us.map Un.cin).sum := by rw [gpG_length, cinU_ex]
  have t1 : ((gpP (exU us) ++ List.replicate m' []).map encT).take ((us.map Un.cin).sum + 1) = (gpP (exU us)).map encT := by
    rw [List.map_append, List.take_left' l1]
  have t2 : (gpG (exU us) ++ G').take (us.map Un.cin).sum = gpG (exU us) := List.take_left' l2
  simp only [t1, t2]
  exact Ev.now _
end Go.Proofs.YtkgicpnnlkcaeaaDoor.F
end
section
namespace Go.Proofs.YtkgicpnnlkcaeaaDoor.F
open Go.RowKit Go.Proofs.YtkgicpnnlkcaeaaDoorW.PrintWords Go.Proofs.YtkgicpnnlkcaeaaDoorW.PrintLast Go.Proofs.YtkgicpnnlkcaeaaDoorW.PrintMore
set_option linter.unusedVariables false
set_option linter.unusedSimpArgs false
def kindU : Un → Nat
  | .keep _ => 1
  | .put _ => 2
  | .drop _ => 3
def joinU : Un → Un → Un
  | .keep n, .keep m => .keep (n + m)
  | .put a, .put b => .put (a ++ b)
  | .drop n, .drop m => .drop (n + m)
  | u, _ => u
def fullU : Un → Bool
  | .keep n => n != 0
  | .put l => l != []
  | .drop n => n != 0
def snocUn : List Un → Un → List Un
  | [], u => [u]
  | [v], u => if kindU v = kindU u then [joinU v u] else [v, u]
  | v :: w :: r, u => v :: snocUn (w :: r) u
theorem snocUn_cons (v w : Un) (r : List Un) (u : Un) : snocUn (v :: w :: r) u = v :: snocUn (w :: r) u := rfl
theorem snocUn_ne (c : List Un) (u : Un) : ∃ v r, snocUn c u = v :: r := by
  match c with
  | [] => exact ⟨_, _, rfl⟩
  | [v] =>
    rw [snocUn]
    split
    · exact ⟨_, _, rfl⟩
    · exact ⟨_, _, rfl⟩
  | v :: w :: r => exact ⟨_, _, rfl⟩
theorem snocUn_last (q : List Un) (v u : Un) : snocUn (q ++ [v]) u = q ++ snocUn [v] u := by
  induction q with
  | nil => rfl
  | cons a q ih =>
    cases q with
    | nil => rfl
    | cons b q => exact congrArg (a :: ·) ih
theorem canon_ex {u : Un} (h : fullU u = true) : canon u.ex = [u] := by
  have := canon_un u []
  rw [List.append_nil] at this
  rw [this]
  cases u with
  | keep n => cases n with
    | zero => simp [fullU] at h
    | succ n => rfl
  | put l => cases l with
    | nil => simp [fullU] at h
    | cons a l => rfl
  | drop n => cases n with
    | zero => simp [fullU] at h
    | succ n => rfl
theorem consU_two (t : U) (v w : Un) (r : List Un) : ∃ a, consU t (v :: w :: r) = a ++ w :: r ∧ (∀ x y, consU t (v :: x :: y) = a ++ x :: y) := by
  cases t <;> cases v <;> first | exact ⟨[_], rfl, fun _ _ => rfl⟩ | exact ⟨[_, _], rfl, fun _ _ => rfl⟩
theorem consU_snoc (t : U) (c : List Un) (u : Un) (hu : fullU u = true) : consU t (snocUn c u) = snocUn (consU t c) u := by
  match c with
  | [] =>
    cases t <;> cases u <;> simp [snocUn, consU, kindU, joinU, Nat.add_comm]
  | [v] =>
    cases t <;> cases v <;> cases u <;> simp [snocUn, consU, kindU, joinU] <;> omega
  | v :: w :: r =>
    obtain ⟨a, e1, e2⟩ := consU_two t v w r
    obtain ⟨x, y, e3⟩ := snocUn_ne (w :: r) u
    rw [snocUn_cons, e3, e2, e1, ← e3]
    clear e1 e2 e3
    induction a with
    | nil => rfl
    | cons b a ih =>
      cases a with
      | nil => rfl
      | cons b2 a => exact congrArg (b :: ·) ih
theorem canon_snoc : ∀ (y : List U) (u : Un), fullU u = true → canon (y ++ u.ex) = snocUn (canon y) u
  | [], u, h => canon_ex h
  | t :: y, u, h => by rw [List.cons_append, canon_cons, canon_snoc y u h, canon_cons, consU_snoc _ _ _ h]
theorem canon_out : ∀ y : List U, ((canon y).map Un.cout).sum = coutU y := fun y => by rw [← coutU_ex, ex_canon]
theorem canon_in : ∀ y : List U, ((canon y).map Un.cin).sum = cinU y := fun y => by rw [← cinU_ex, ex_canon]
theorem consU_length (t : U) (c : List Un) : (consU t c).length ≤ c.length + 1 ∧ c.length ≤ (consU t c).length := by
  rcases c with _ | ⟨v, r⟩
  · cases t <;> simp [consU]
  · cases t <;> cases v <;> simp [consU] <;> omega
theorem canon_length : ∀ y : List U, (canon y).length ≤ y.length
  | [] => Nat.le_refl _
  | t :: y => by
    rw [canon_cons]
    have := (consU_length t (canon y)).1
    have := canon_length y
    simp only [List.length_cons]
    omega
theorem length_two : ∀ y : List U, y.length ≤ cinU y + coutU y
  | [] => Nat.zero_le _
  | t :: y => by
    have := length_two y
    cases t <;> simp only [cinU, coutU, List.length_cons] <;> omega
def RunesU (y : List U) : Prop := ∀ r, U.p r ∈ y → isRune r
theorem RunesU.append {a b : List U} (ha : RunesU a) (hb : RunesU b) : RunesU (a ++ b) := fun r h => (List.mem_append.1 h).elim (ha r) (hb r)
theorem RunesU.tail {t : U} {y : List U} (h : RunesU (t :: y)) : RunesU y := fun r hr => h r (by simp [hr])
theorem RunesU.put {l : List Int} (h : Runes l) : RunesU (l.map .p) := by
  intro r hr
  obtain ⟨x, hx, e⟩ := List.mem_map.1 hr
  injection e with e
  rw [← e]
  exact h x hx
theorem addW_is (c : List Un) (u : Un) (hc : c.length ≤ 1099511627776) (h1 : (c.map Un.cin).sum + u.cin ≤ 1099511627776) (h2 : (c.map Un.cout).sum + u.cout ≤ 1099511627776) :
    addW (c.map Un.sp) u.sp.f0 u.sp.f1 u.sp.f2 = some (((if fullU u = true then snocUn c u else c)).map Un.sp) := by
  unfold addW
  rw [if_pos (by rw [List.length_map]; omega)]
  unfold addW0
  have he : (u.sp.f1 = 0 ∧ u.sp.f2.toList = []) ↔ ¬ fullU u = true := by
    have hn : (⟨#[]⟩ : ByteArray).toList = [] := by rw [ByteArray.toList_eq]
    cases u with
    | keep n => simp [Un.sp, fullU, hn]
    | drop n => simp [Un.sp, fullU, hn]
    | put l => have := encT_none l; simp [Un.sp, fullU, this]
  by_cases hf : fullU u = true
  · rw [if_neg (by rw [he]; exact fun h => h hf), if_pos hf]
    rcases snoc_cases c with rfl | ⟨q, v, rfl⟩
    · rw [if_neg (by simp), if_pos (by simp)]
      rfl
    · have hl : (((q ++ [v]).map Un.sp).length : Int) - 1 = (((q.map Un.sp).length : Nat) : Int) := by simp
      have hrd : rd_T33 ((q ++ [v]).map Un.sp) ((((q ++ [v]).map Un.sp).length : Int) - 1) = v.sp := by
        rw [hl, List.map_append]
        exact rdS_at rfl
      have hset : ∀ x, ((q ++ [v]).map Un.sp).set (((q ++ [v]).map Un.sp).length - 1) x = q.map Un.sp ++ [x] := by
        intro x
        simp [List.set_append]
      have hkind : v.sp.f0 = u.sp.f0 ↔ kindU v = kindU u := by cases v <;> cases u <;> simp [Un.sp, kindU]
      simp only [List.map_append, List.map_cons, List.map_nil, List.sum_append, List.sum_cons, List.sum_nil] at h1 h2
      rw [hrd, hset, snocUn_last]
      by_cases hk : kindU v = kindU u
      · rw [if_pos ⟨by simp, hkind.2 hk⟩]
        have hz : v.sp.f2.size + u.sp.f2.size ≤ 9223372036854775807 := by
          have s : ∀ x : Un, x.sp.f2.size ≤ 4 * x.cout := by
            intro x
            cases x with
            | put l => exact (encT_size l).2
            | keep n => exact Nat.zero_le _
            | drop n => exact Nat.zero_le _
          have := s v
          have := s u
          omega
        rw [if_pos hz]
        have hj : (⟨v.sp.f0, wrap64 (v.sp.f1 + u.sp.f1), v.sp.f2 ++ u.sp.f2⟩ : Sp) = (joinU v u).sp := by
          cases v <;> cases u <;> simp [kindU] at hk
          · simp only [Un.cin] at h1
            exact join_keep _ _ (by omega)
          · exact join_put _ _
          · simp only [Un.cin] at h1
            exact join_drop _ _ (by omega)
        rw [hj, show snocUn [v] u = [joinU v u] by rw [snocUn, if_pos hk]]
        simp
      · rw [if_neg (fun h => hk (hkind.1 h.2)), if_pos (by rw [List.length_map]; omega), show snocUn [v] u = [v, u] by rw [snocUn, if_neg hk]]
        simp
  · rw [if_pos (he.2 hf), if_neg hf]
theorem addW_canon (y : List U) (u : Un) (hy : cinU y + u.cin ≤ 1099511 ∧ coutU y + u.cout ≤ 1099511) : addW ((canon y).map Un.sp) u.sp.f0 u.sp.f1 u.sp.f2 = some ((canon (y ++ u.ex)).map Un.sp) := by
  have h1 := canon_length y
  have h2 := length_two y
  rw [addW_is _ _ (by omega) (by rw [canon_in]; omega) (by rw [canon_out]; omega)]
  by_cases hf : fullU u = true
  · rw [if_pos hf, canon_snoc y u hf]
  · rw [if_neg hf]
    have : u.ex = [] := by
      cases u with
      | keep n => simp [fullU] at hf; subst hf; rfl
      | put l => simp [fullU] at hf; subst hf; rfl
      | drop n => simp [fullU] at hf; subst hf; rfl
    rw [this, List.append_nil]
theorem spansL_is : ∀ (ps : List (List Int)) (gs : List Bool) (y : List U), ps.length = gs.length + 1 → (∀ p ∈ ps, Runes p) → cinU y + gs.length ≤ 1000000 → coutU y + gs.length + (ps.map List.length).sum ≤ 1000000 →
    spansL (ps.map encT) gs ((canon y).map Un.sp) = some ((canon (y ++ ungp ps gs)).map Un.sp, 0)
  | [], gs, y, h, _, _, _ => by simp at h
  | [p], [], y, h, hr, h1, h2 => by
    simp only [List.map_cons, List.map_nil, List.sum_cons, List.sum_nil, List.length_nil] at h2 h1
    have := addW_canon y (.put p) ⟨by show cinU y + 0 ≤ _; omega, by show coutU y + p.length ≤ _; omega⟩
    rw [List.map_cons, List.map_nil, spansL, validStr_enc p (hr p (by simp)) (by omega), Option.bind_some, if_pos rfl]
    rw [show addW ((canon y).map Un.sp) 2 0 (encT p) = _ from this, Option.bind_some, spansL]
    rfl
  | p :: q :: ps, [], y, h, _, _, _ => by simp at h
  | p :: ps, g :: gs, y, h, hr, h1, h2 => by
    simp only [List.map_cons, List.sum_cons, List.length_cons] at h2 h1 h
    have a1 := addW_canon y (.put p) ⟨by show cinU y + 0 ≤ _; omega, by show coutU y + p.length ≤ _; omega⟩
    have e1 : cinU (p.map U.p) = 0 := cinU_un (.put p)
    have e2 : coutU (p.map U.p) = p.length := coutU_un (.put p)
    have e3 : cinU [ug g] = 1 := by cases g <;> rfl
    have e4 : coutU [ug g] ≤ 1 := by cases g <;> simp [ug, coutU]
    have c1 := cinU_append y (p.map U.p)
    have c2 := coutU_append y (p.map U.p)
    have c3 := cinU_append (y ++ p.map U.p) [ug g]
    have c4 := coutU_append (y ++ p.map U.p) [ug g]
    have a2 : addW ((canon (y ++ p.map U.p)).map Un.sp) (if g = true then 3 else 1) 1 ⟨#[]⟩ = some ((canon (y ++ p.map U.p ++ [ug g])).map Un.sp) := by
      cases g
      · exact addW_canon (y ++ p.map U.p) (.keep 1) ⟨by show _ + 1 ≤ _; omega, by show _ + 1 ≤ _; omega⟩
      · exact addW_canon (y ++ p.map U.p) (.drop 1) ⟨by show _ + 1 ≤ _; omega, by show _ + 0 ≤ _; omega⟩
    rw [List.map_cons, spansL, validStr_enc p (hr p (by simp)) (by omega), Option.bind_some, if_pos rfl]
    rw [show addW ((canon y).map Un.sp) 2 0 (encT p) = _ from a1, Option.bind_some, show canon (y ++ (Un.put p).ex) = canon (y ++ p.map U.p) from rfl, a2, Option.bind_some]
    rw [spansL_is ps gs _ (by omega) (fun x hx => hr x (by simp [hx])) (by omega) (by omega)]
    simp [ungp]
end Go.Proofs.YtkgicpnnlkcaeaaDoor.F
end
section
namespace Go.Proofs.YtkgicpnnlkcaeaaDoor.F
open Go.RowKit Go.Proofs.YtkgicpnnlkcaeaaDoorW.PrintWords Go.Proofs.YtkgicpnnlkcaeaaDoorW.PrintLast Go.Proofs.YtkgicpnnlkcaeaaDoorW.PrintMore
set_option linter.unusedVariables false
set_option linter.unusedSimpArgs false
theorem toList_inj {a b : ByteArray} (h : a.toList = b.toList) : a = b := by
  rw [ByteArray.toList_eq, ByteArray.toList_eq] at h
  apply ByteArray.ext
  exact Array.ext' h
theorem rdB_at (l : List ByteArray) (pre r : List ByteArray) (c : ByteArray) (h : l = pre ++ c :: r) : rdOf ByteArray.empty l (pre.length : Int) = c := by
  subst h
  unfold rdOf
  simp [List.getD_eq_getElem?_getD]
theorem rdG_at (l : List Bool) (pre r : List Bool) (c : Bool) (h : l = pre ++ c :: r) : rdOf false l (pre.length : Int) = c := by
  subst h
  unfold rdOf
  simp [List.getD_eq_getElem?_getD]
theorem same6_l1 (x0 y0 : List ByteArray) (a b : List Bool) (hl : a.length = b.length) (hm : a.length ≤ 4611686018427387904) : ∀ (r q pre pre2 : List Bool), a = pre ++ r → b = pre2 ++ q → pre.length = pre2.length →
    Ev (fun k => epitomeref06_Same.l1 k (pre.length : Int) x0 a y0 b) (decide (r = q))
  | [], q, pre, pre2, h1, h2, h3 => by
    have hq : q = [] := by
      have := congrArg List.length h1
      have := congrArg List.length h2
      simp at *
      exact List.eq_nil_of_length_eq_zero (by omega)
    subst hq
    refine Ev.step (f := fun _ => some true) (fun k => ?_) (by simpa using Ev.now true)
    rw [epitomeref06_Same.l1, if_neg (by subst h1; simp)]
  | t :: r, q, pre, pre2, h1, h2, h3 => by
    have e1 : a.length = pre.length + (r.length + 1) := by rw [h1]; simp
    have e2 : b.length = pre2.length + q.length := by rw [h2]; simp
    rcases q with _ | ⟨u, q⟩
    · simp at e2; omega
    have ra := rdG_at a pre r t h1
    have rb := rdG_at b pre2 q u h2
    rw [← h3] at rb
    have ih := same6_l1 x0 y0 a b hl hm r q (pre ++ [t]) (pre2 ++ [u]) (by simp [h1]) (by simp [h2]) (by simp [h3])
    by_cases htu : t = u
    · subst htu
      rw [show decide (t :: r = t :: q) = decide (r = q) by simp]
      refine Ev.step (fun k => ?_) ih
      rw [epitomeref06_Same.l1, if_pos (by omega), if_pos (by omega), if_pos (by omega), ra, rb, if_neg (by simp), w64_succ _ (by omega)]
      simp
    · rw [show decide (t :: r = u :: q) = false by simp [htu]]
      refine Ev.step (f := fun _ => some false) (fun k => ?_) (Ev.now _)
      rw [epitomeref06_Same.l1, if_pos (by omega), if_pos (by omega), if_pos (by omega), ra, rb, if_pos (by simp [htu])]
theorem same6_l0 (x1 y1 : List Bool) (a b : List ByteArray) (v : Bool) (hl : a.length = b.length) (hm : a.length ≤ 4611686018427387904) (hv : Ev (fun k => epitomeref06_Same.l1 k 0 a x1 b y1) v) : ∀ (r q pre pre2 : List ByteArray), a = pre ++ r → b = pre2 ++ q → pre.length = pre2.length →
    Ev (fun k => epitomeref06_Same.l0 k (pre.length : Int) a x1 b y1) (decide (r = q) && v)
  | [], q, pre, pre2, h1, h2, h3 => by
    have hq : q = [] := by
      have := congrArg List.length h1
      have := congrArg List.length h2
      simp at *
      exact List.eq_nil_of_length_eq_zero (by omega)
    subst hq
    refine Ev.step (fun k => ?_) (by simpa using hv)
    rw [epitomeref06_Same.l0, if_neg (by subst h1; simp)]
  | t :: r, q, pre, pre2, h1, h2, h3 => by
    have e1 : a.length = pre.length + (r.length + 1) := by rw [h1]; simp
    have e2 : b.length = pre2.length + q.length := by rw [h2]; simp
    rcases q with _ | ⟨u, q⟩
    · simp at e2; omega
    have ra := rdB_at a pre r t h1
    have rb := rdB_at b pre2 q u h2
    rw [← h3] at rb
    have ih := same6_l0 x1 y1 a b v hl hm hv r q (pre ++ [t]) (pre2 ++ [u]) (by simp [h1]) (by simp [h2]) (by simp [h3])
    by_cases htu : t = u
    · subst htu
      rw [show decide (t :: r = t :: q) = decide (r = q) by simp]
      refine Ev.step (fun k => ?_) ih
      rw [epitomeref06_Same.l0, if_pos (by omega), if_pos (by omega), if_pos (by omega), ra, rb, if_pos rfl, w64_succ _ (by omega)]
      simp
    · rw [show (decide (t :: r = u :: q) && v) = false by simp [htu]]
      refine Ev.step (f := fun _ => some false) (fun k => ?_) (Ev.now _)
      rw [epitomeref06_Same.l0, if_pos (by omega), if_pos (by omega), if_pos (by omega), ra, rb, if_neg (fun h => htu (toList_inj h))]
theorem same6_is (a b : List ByteArray) (g h : List Bool) (hm : a.length ≤ 4611686018427387904) (hg : g.length ≤ 4611686018427387904) :
    Ev (fun k => epitomeref06_Same.f k a g b h) (decide (a = b ∧ g = h)) := by
  have no : ∀ {w : Bool}, w = false → Ev (fun k => epitomeref06_Same.j0 k true a g b h) w := by
    rintro _ rfl
    refine Ev.step (f := fun _ => some false) (fun k => ?_) (Ev.now _)
    rw [epitomeref06_Same.j0, if_pos rfl]
  unfold epitomeref06_Same.f
  by_cases h1 : (a.length : Int) = (b.length : Int)
  · refine ev_if_pos h1 ?_
    by_cases h2 : g.length = h.length
    · rw [show ((g.length : Int) != (h.length : Int)) = false by simp [h2]]
      refine Ev.step (f := fun k => epitomeref06_Same.l0 k 0 a g b h) (fun k => by rw [epitomeref06_Same.j0, if_neg (by simp)]) ?_
      have v := same6_l1 a b g h h2 hg g h [] [] rfl rfl rfl
      have := same6_l0 g h a b _ (by omega) hm v a b [] [] rfl rfl rfl
      rw [show decide (a = b ∧ g = h) = (decide (a = b) && decide (g = h)) from Bool.decide_and _ _]
      exact this
    · rw [show ((g.length : Int) != (h.length : Int)) = true by simp; omega]
      refine no ?_
      simp
      intro _ e
      exact h2 (by rw [e])
  · refine ev_if_neg h1 (no ?_)
    simp
    intro e
    exact absurd (by rw [e]) h1
end Go.Proofs.YtkgicpnnlkcaeaaDoor.F
end
section
namespace Go.Proofs.YtkgicpnnlkcaeaaDoor.F
open Go.RowKit Go.Proofs.YtkgicpnnlkcaeaaDoorW.PrintWords Go.Proofs.YtkgicpnnlkcaeaaDoorW.PrintLast Go.Proofs.YtkgicpnnlkcaeaaDoorW.PrintMore
set_option linter.unusedVariables false
set_option linter.unusedSimpArgs false
def cutT (m : Nat) (s : ByteArray) : ByteArray := s.extract 0 (mn (s.size : Int) (m : Int)).toNat
theorem cutT_size (m : Nat) (s : ByteArray) : (cutT m s).size ≤ m := by
  have h1 := mn_le (s.size : Int) (m : Int)
  have h2 := extract_size s (mn (s.size : Int) (m : Int)).toNat
  unfold cutT
  omega
theorem few06_loop (l : List ByteArray) (g0 : List Bool) (g : List Bool) (hl : l.length ≤ maxLen) : ∀ (r pre : List ByteArray), l = pre ++ r → pre.length ≤ 41 →
    Ev (fun k => epitomelaw06_few.l0 k (pre.length : Int) l g0 (pre.map (cutT 20)) g) ((l.take 41).map (cutT 20), g)
  | [], pre, h, hp => by
    rw [List.append_nil] at h
    subst h
    refine Ev.step (f := fun _ => some ((l.take 41).map (cutT 20), g)) (fun k => ?_) (Ev.now _)
    rw [epitomelaw06_few.l0, if_neg (by omega), List.take_of_length_le hp]
  | s :: r, pre, h, hp => by
    have hll : pre.length + (r.length + 1) = l.length := by rw [h]; simp
    by_cases h41 : pre.length = 41
    · refine Ev.step (f := fun _ => some ((l.take 41).map (cutT 20), g)) (fun k => ?_) (Ev.now _)
      rw [epitomelaw06_few.l0, if_pos (by omega), if_neg (by omega), h, ← h41, List.take_left]
    · have hrd := rdB_at l pre r s h
      have h1 := mn_le (s.size : Int) 20
      have ih := few06_loop l g0 g hl r (pre ++ [s]) (by simp [h]) (by simp; omega)
      refine Ev.step (fun k => ?_) ih
      rw [epitomelaw06_few.l0, if_pos (by omega), if_pos (by omega), if_pos (by omega), hrd, if_pos (by omega), if_pos (by omega), if_pos (by rw [List.length_map]; omega), w64_succ _ (by omega)]
      simp [cutT]
theorem few06_is (l : List ByteArray) (g : List Bool) (hl : l.length ≤ maxLen) : Ev (fun k => epitomelaw06_few.f k l g) ((l.take 41).map (cutT 20), g.take 40) := by
  have h1 := mn_le (g.length : Int) 40
  have e : g.take (mn (g.length : Int) 40).toNat = g.take 40 := by
    rcases Nat.le_total g.length 40 with h | h
    · rw [List.take_of_length_le h, List.take_of_length_le (by omega)]
    · congr 1
      omega
  unfold epitomelaw06_few.f
  refine ev_if_pos (by omega) (ev_if_pos (by omega) ?_)
  rw [e]
  exact few06_loop l g _ hl l [] rfl (by simp)
end Go.Proofs.YtkgicpnnlkcaeaaDoor.F
end
section
namespace Go.Proofs.YtkgicpnnlkcaeaaDoor.F
open Go.RowKit Go.Proofs.YtkgicpnnlkcaeaaDoorW.PrintWords Go.Proofs.YtkgicpnnlkcaeaaDoorW.PrintLast Go.Proofs.YtkgicpnnlkcaeaaDoorW.PrintMore
set_option linter.unusedVariables false
set_option linter.unusedSimpArgs false
def sizeD (r : Int) : Int := if r < 0 ∨ r > 1114111 ∨ (55296 ≤ r ∧ r ≤ 57343) then 0 else if r < 128 then 1 else if r < 2048 then 2 else if r < 65536 then 3 else 4
theorem sizeAny_is (r : Int) : Ev (fun k => epitomeref01_size.f k r) (sizeD r) := by
  have hj : ∀ b, (b = true ↔ (r < 0 ∨ r > 1114111 ∨ (55296 ≤ r ∧ r ≤ 57343))) → Ev (fun k => epitomeref01_size.j0 k r b) (sizeD r) := by
    intro b hb
    refine Ev.step (f := fun _ => some (sizeD r)) (fun k => ?_) (Ev.now _)
    rw [epitomeref01_size.j0]
    unfold sizeD
    cases b
    · have h : ¬ (r < 0 ∨ r > 1114111 ∨ (55296 ≤ r ∧ r ≤ 57343)) := fun e => by have := hb.2 e; cases this
      rw [if_neg (by simp), if_neg h]
      split
      · rfl
      · split
        · rfl
        · split <;> rfl
    · have h := hb.1 rfl
      rw [if_pos rfl, if_pos h]
  unfold epitomeref01_size.f
  by_cases h1 : r < 0
  · exact ev_if_pos h1 (hj true (by simp [h1]))
  · refine ev_if_neg h1 ?_
    by_cases h2 : r > 1114111
    · exact ev_if_pos h2 (hj true (by simp [h2]))
    · refine ev_if_neg h2 ?_
      by_cases h3 : r ≥ 55296
      · refine ev_if_pos h3 (hj _ ?_)
        simp
        omega
      · refine ev_if_neg h3 (hj false ?_)
        simp
        omega
def bN (s : ByteArray) (i : Nat) : Nat := (s.data.toList.getD i 0).toNat
theorem bN_lt (s : ByteArray) (i : Nat) : bN s i < 256 := by unfold bN; exact UInt8.toNat_lt _
theorem bt_bN (s : ByteArray) (i : Nat) : bt s (i : Int) = (bN s i : Int) := by
  rw [← rd_bytesOf]
  unfold rd bytesOf bN
  rw [Int.toNat_natCast, List.getD_eq_getElem?_getD, List.getD_eq_getElem?_getD, List.getElem?_map]
  cases s.data.toList[i]? <;> simp
theorem decode_bN (s : ByteArray) : Lib.decodeL s.data.toList = Lib.decodeN s.size (bN s 0) (bN s 1) (bN s 2) (bN s 3) := by
  rw [Lib.decodeL_N, data_length]
  rfl
def firstD (s : ByteArray) : Int × Int := if s.size = 0 then (0, 0) else if Lib.decodeL s.data.toList = (65533, 1) then (0, 0) else (((Lib.decodeL s.data.toList).1 : Nat), ((Lib.decodeL s.data.toList).2 : Nat))
theorem first_out (s : ByteArray) (m i : Nat) (r : Int) (hi : i ≤ m) (hs : i < s.size) (hm : m ≤ 10) (hb : bN s i / 64 ≠ 2) : Ev (fun k => epitomeref01_first.l0 k s (m : Int) r (i : Int)) (0, 0) := by
  have hl := bN_lt s i
  refine Ev.step (f := fun _ => some (0, 0)) (fun k => ?_) (Ev.now _)
  rw [epitomeref01_first.l0, if_pos (by omega), if_pos (by omega), if_pos (by omega), bt_bN, w64 (by omega) (by omega)]
  by_cases h : (bN s i : Int) < 128
  · rw [if_pos h]
  · rw [if_neg h, if_pos (by omega)]
theorem first_in (s : ByteArray) (m i : Nat) (r : Nat) (v : Int × Int) (hi : i ≤ m) (hs : i < s.size) (hm : m ≤ 10) (hr : r ≤ 1000000) (hb : bN s i / 64 = 2) (h : Ev (fun k => epitomeref01_first.l0 k s (m : Int) ((r * 64 + bN s i % 64 : Nat) : Int) ((i + 1 : Nat) : Int)) v) :
    Ev (fun k => epitomeref01_first.l0 k s (m : Int) (r : Int) (i : Int)) v := by
  have hl := bN_lt s i
  refine Ev.step (fun k => ?_) h
  have e : wrap64 (wrap64 (wrap64 ((r : Int) * 64) + (bN s i : Int)) - 128) = ((r * 64 + bN s i % 64 : Nat) : Int) := by
    rw [w64 (x := (r : Int) * 64) (by omega) (by omega), w64 (x := (r : Int) * 64 + _) (by omega) (by omega), w64 (by omega) (by omega)]
    omega
  rw [epitomeref01_first.l0, if_pos (by omega), if_pos (by omega), if_pos (by omega), bt_bN, w64 (x := (bN s i : Int)) (by omega) (by omega), if_neg (by omega), if_neg (by omega), e, w64_succ _ (by omega)]
theorem first_end (s : ByteArray) (m : Nat) (r : Int) (hm : m ≤ 10) : Ev (fun k => epitomeref01_first.l0 k s (m : Int) r ((m + 1 : Nat) : Int)) (if sizeD r = ((m + 1 : Nat) : Int) then (r, ((m + 1 : Nat) : Int)) else (0, 0)) := by
  refine Ev.step (f := fun k => _) (fun k => by rw [epitomeref01_first.l0, if_neg (by omega), w64_succ _ (by omega)]) ?_
  refine Ev.bind (sizeAny_is r) ?_
  by_cases h : sizeD r = ((m + 1 : Nat) : Int)
  · simp only [if_pos h]; exact Ev.now _
  · simp only [if_neg h]; exact Ev.now _
theorem first_j3 (s : ByteArray) (m r : Nat) (hm : m ≤ 10) (v : Int × Int) (h1 : s.size < m + 1 → v = (0, 0)) (h2 : m + 1 ≤ s.size → Ev (fun k => epitomeref01_first.l0 k s (m : Int) (r : Int) 1) v) : Ev (fun k => epitomeref01_first.j3 k s (m : Int) (r : Int)) v := by
  by_cases h : s.size < m + 1
  · refine Ev.step (f := fun _ => some v) (fun k => ?_) (Ev.now _)
    rw [epitomeref01_first.j3, w64_succ _ (by omega), if_pos (by omega), h1 h]
  · refine Ev.step (fun k => ?_) (h2 (by omega))
    rw [epitomeref01_first.j3, w64_succ _ (by omega), if_neg (by omega)]
theorem first_is (s : ByteArray) : Ev (fun k => epitomeref01_first.f k s) (firstD s) := by
  unfold epitomeref01_first.f firstD
  by_cases h0 : s.size = 0
  · rw [if_pos h0]
    exact ev_if_pos (by omega) (Ev.now _)
  rw [if_neg h0]
  refine ev_if_neg (by omega) (ev_if_pos (by omega) ?_)
  have b0 := bN_lt s 0
  have e0 : wrap64 (bt s 0) = (bN s 0 : Int) := by
    have := bt_bN s 0
    rw [show ((0 : Nat) : Int) = 0 from rfl] at this
    rw [this, w64 (by omega) (by omega)]
  rw [e0, decode_bN]
  generalize hd : Lib.decodeN s.size (bN s 0) (bN s 1) (bN s 2) (bN s 3) = d
  generalize hv : (if d = (65533, 1) then ((0 : Int), (0 : Int)) else ((d.1 : Int), (d.2 : Int))) = v
  have err : d = (65533, 1) → v = (0, 0) := fun e => by rw [← hv, if_pos e]
  have good : ∀ a b : Nat, d = (a, b) → b ≠ 1 ∨ a < 128 → v = ((a : Int), (b : Int)) := fun a b e hn => by
    rw [← hv, if_neg, e]
    rw [e]
    rintro h
    injection h with h1 h2
    omega
  unfold Lib.decodeN at hd
  -- the four ways
  have j2f : bN s 0 < 192 → Ev (fun k => epitomeref01_first.j2 k s (bN s 0 : Int) 0 (bN s 0 : Int) false) v := by
    intro h
    by_cases h1 : bN s 0 < 128
    · rw [if_pos h1] at hd
      refine Ev.step (f := fun k => epitomeref01_first.j3 k s 0 (bN s 0 : Int)) (fun k => ?_) ?_
      · rw [epitomeref01_first.j2, if_neg (by simp), if_neg (by omega)]
      · refine first_j3 s 0 _ (by omega) v (by omega) (fun _ => ?_)
        have := first_end s 0 (bN s 0 : Int) (by omega)
        rw [if_pos (by unfold sizeD; rw [if_neg (by omega), if_pos (by omega)]; rfl)] at this
        rw [good _ _ hd.symm (.inr h1)]
        exact this
    · rw [if_neg h1, if_neg (by omega), if_neg (by omega), if_neg (by omega)] at hd
      refine Ev.step (f := fun _ => some (0, 0)) (fun k => ?_) (by rw [err hd.symm]; exact Ev.now _)
      rw [epitomeref01_first.j2, if_neg (by simp), if_pos (by omega)]
  have j2t : 192 ≤ bN s 0 → bN s 0 < 224 → Ev (fun k => epitomeref01_first.j2 k s (bN s 0 : Int) 0 (bN s 0 : Int) true) v := by
    intro h h1
    rw [if_neg (by omega)] at hd
    refine Ev.step (f := fun k => epitomeref01_first.j3 k s 1 ((bN s 0 - 192 : Nat) : Int)) (fun k => ?_) ?_
    · rw [epitomeref01_first.j2, if_pos rfl, w64 (by omega) (by omega), Int.ofNat_sub h]
      rfl
    · refine first_j3 s 1 _ (by omega) v (fun hs => ?_) (fun hs => ?_)
      · rw [if_neg (by omega), if_neg (by omega), if_neg (by omega)] at hd
        exact err hd.symm
      · by_cases c1 : bN s 1 / 64 = 2
        · rw [if_pos ⟨by omega, by omega, c1⟩] at hd
          refine first_in s 1 1 _ v (by omega) (by omega) (by omega) (by omega) c1 ?_
          have := first_end s 1 (((bN s 0 - 192) * 64 + bN s 1 % 64 : Nat) : Int) (by omega)
          have e : bN s 0 % 32 * 64 + bN s 1 % 64 = (bN s 0 - 192) * 64 + bN s 1 % 64 := by omega
          rw [e] at hd
          generalize (bN s 0 - 192) * 64 + bN s 1 % 64 = r at *
          by_cases c2 : r ≥ 128
          · rw [if_pos c2] at hd
            rw [if_pos (by unfold sizeD; rw [if_neg (by omega), if_neg (by omega), if_pos (by omega)]; rfl)] at this
            rw [good _ _ hd.symm (.inl (by omega))]
            exact this
          · rw [if_neg c2] at hd
            rw [if_neg (by unfold sizeD; rw [if_neg (by omega), if_pos (by omega)]; decide)] at this
            rw [err hd.symm]
            exact this
        · rw [if_neg (fun e => c1 e.2.2), if_neg (by omega), if_neg (by omega)] at hd
          rw [err hd.symm]
          exact first_out s 1 1 _ (by omega) (by omega) (by omega) c1
  have j1t : 224 ≤ bN s 0 → bN s 0 < 240 → Ev (fun k => epitomeref01_first.j1 k s (bN s 0 : Int) 0 (bN s 0 : Int) true) v := by
    intro h h1
    rw [if_neg (by omega), if_neg (by omega)] at hd
    refine Ev.step (f := fun k => epitomeref01_first.j3 k s 2 ((bN s 0 - 224 : Nat) : Int)) (fun k => ?_) ?_
    · rw [epitomeref01_first.j1, if_pos rfl, w64 (by omega) (by omega), Int.ofNat_sub h]
      rfl
    · refine first_j3 s 2 _ (by omega) v (fun hs => ?_) (fun hs => ?_)
      · rw [if_neg (by omega), if_neg (by omega)] at hd
        exact err hd.symm
      · by_cases c1 : bN s 1 / 64 = 2
        · refine first_in s 2 1 _ v (by omega) (by omega) (by omega) (by omega) c1 ?_
          by_cases c2 : bN s 2 / 64 = 2
          · rw [if_pos ⟨by omega, ⟨by omega, c1⟩, by omega, c2⟩] at hd
            refine first_in s 2 2 _ v (by omega) (by omega) (by omega) (by omega) c2 ?_
            have := first_end s 2 ((((bN s 0 - 224) * 64 + bN s 1 % 64) * 64 + bN s 2 % 64 : Nat) : Int) (by omega)
            have e : bN s 0 % 16 * 4096 + bN s 1 % 64 * 64 + bN s 2 % 64 = ((bN s 0 - 224) * 64 + bN s 1 % 64) * 64 + bN s 2 % 64 := by omega
            rw [e] at hd
            generalize ((bN s 0 - 224) * 64 + bN s 1 % 64) * 64 + bN s 2 % 64 = r at *
            have hr : r < 65536 := by omega
            by_cases c3 : r ≥ 2048 ∧ (r < 55296 ∨ (57344 ≤ r ∧ r ≤ 1114111))
            · rw [if_pos c3] at hd
              rw [if_pos (by unfold sizeD; rw [if_neg (by omega), if_neg (by omega), if_neg (by omega), if_pos (by omega)]; rfl)] at this
              rw [good _ _ hd.symm (.inl (by omega))]
              exact this
            · rw [if_neg c3] at hd
              rw [if_neg (by unfold sizeD; split <;> (try split) <;> (try split) <;> (try split) <;> omega)] at this
              rw [err hd.symm]
              exact this
          · rw [if_neg (fun e => c2 e.2.2.2), if_neg (by omega)] at hd
            rw [err hd.symm]
            exact first_out s 2 2 _ (by omega) (by omega) (by omega) c2
        · rw [if_neg (fun e => c1 e.2.1.2), if_neg (by omega)] at hd
          rw [err hd.symm]
          exact first_out s 2 1 _ (by omega) (by omega) (by omega) c1
  have j0t : 240 ≤ bN s 0 → bN s 0 < 248 → Ev (fun k => epitomeref01_first.j0 k s (bN s 0 : Int) 0 (bN s 0 : Int) true) v := by
    intro h h1
    rw [if_neg (by omega), if_neg (by omega), if_neg (by omega)] at hd
    refine Ev.step (f := fun k => epitomeref01_first.j3 k s 3 ((bN s 0 - 240 : Nat) : Int)) (fun k => ?_) ?_
    · rw [epitomeref01_first.j0, if_pos rfl, w64 (by omega) (by omega), Int.ofNat_sub h]
      rfl
    · refine first_j3 s 3 _ (by omega) v (fun hs => ?_) (fun hs => ?_)
      · rw [if_neg (by omega)] at hd
        exact err hd.symm
      · by_cases c1 : bN s 1 / 64 = 2
        · refine first_in s 3 1 _ v (by omega) (by omega) (by omega) (by omega) c1 ?_
          by_cases c2 : bN s 2 / 64 = 2
          · refine first_in s 3 2 _ v (by omega) (by omega) (by omega) (by omega) c2 ?_
            by_cases c4 : bN s 3 / 64 = 2
            · rw [if_pos ⟨by omega, ⟨by omega, c1⟩, ⟨by omega, c2⟩, by omega, c4⟩] at hd
              refine first_in s 3 3 _ v (by omega) (by omega) (by omega) (by omega) c4 ?_
              have := first_end s 3 (((((bN s 0 - 240) * 64 + bN s 1 % 64) * 64 + bN s 2 % 64) * 64 + bN s 3 % 64 : Nat) : Int) (by omega)
              have e : bN s 0 % 8 * 262144 + bN s 1 % 64 * 4096 + bN s 2 % 64 * 64 + bN s 3 % 64 = (((bN s 0 - 240) * 64 + bN s 1 % 64) * 64 + bN s 2 % 64) * 64 + bN s 3 % 64 := by omega
              rw [e] at hd
              generalize (((bN s 0 - 240) * 64 + bN s 1 % 64) * 64 + bN s 2 % 64) * 64 + bN s 3 % 64 = r at *
              by_cases c3 : r ≥ 65536 ∧ (r < 55296 ∨ (57344 ≤ r ∧ r ≤ 1114111))
              · rw [if_pos c3] at hd
                rw [if_pos (by unfold sizeD; rw [if_neg (by omega), if_neg (by omega), if_neg (by omega), if_neg (by omega)]; rfl)] at this
                rw [good _ _ hd.symm (.inl (by omega))]
                exact this
              · rw [if_neg c3] at hd
                rw [if_neg (by unfold sizeD; split <;> (try split) <;> (try split) <;> (try split) <;> omega)] at this
                rw [err hd.symm]
                exact this
            · rw [if_neg (fun e => c4 e.2.2.2.2)] at hd
              rw [err hd.symm]
              exact first_out s 3 3 _ (by omega) (by omega) (by omega) c4
          · rw [if_neg (fun e => c2 e.2.2.1.2)] at hd
            rw [err hd.symm]
            exact first_out s 3 2 _ (by omega) (by omega) (by omega) c2
        · rw [if_neg (fun e => c1 e.2.1.2)] at hd
          rw [err hd.symm]
          exact first_out s 3 1 _ (by omega) (by omega) (by omega) c1
  have j2 : bN s 0 < 224 ∨ 248 ≤ bN s 0 → Ev (fun k => epitomeref01_first.j1 k s (bN s 0 : Int) 0 (bN s 0 : Int) false) v := by
    intro h
    by_cases h1 : 192 ≤ bN s 0
    · refine Ev.step (f := fun k => epitomeref01_first.j2 k s (bN s 0 : Int) 0 (bN s 0 : Int) (decide ((bN s 0 : Int) < 224))) (fun k => by rw [epitomeref01_first.j1, if_neg (by simp), if_pos (by omega)]) ?_
      by_cases h2 : bN s 0 < 224
      · rw [decide_eq_true (by omega)]
        exact j2t h1 h2
      · rw [decide_eq_false (by omega)]
        rw [if_neg (by omega), if_neg (by omega), if_neg (by omega), if_neg (by omega)] at hd
        refine Ev.step (f := fun _ => some (0, 0)) (fun k => ?_) (by rw [err hd.symm]; exact Ev.now _)
        rw [epitomeref01_first.j2, if_neg (by simp), if_pos (by omega)]
    · exact Ev.step (fun k => by rw [epitomeref01_first.j1, if_neg (by simp), if_neg (by omega)]) (j2f (by omega))
  have j1 : bN s 0 < 240 ∨ 248 ≤ bN s 0 → Ev (fun k => epitomeref01_first.j0 k s (bN s 0 : Int) 0 (bN s 0 : Int) false) v := by
    intro h
    by_cases h1 : 224 ≤ bN s 0
    · refine Ev.step (f := fun k => epitomeref01_first.j1 k s (bN s 0 : Int) 0 (bN s 0 : Int) (decide ((bN s 0 : Int) < 240))) (fun k => by rw [epitomeref01_first.j0, if_neg (by simp), if_pos (by omega)]) ?_
      by_cases h2 : bN s 0 < 240
      · rw [decide_eq_true (by omega)]
        exact j1t h1 h2
      · rw [decide_eq_false (by omega)]
        exact j2 (by omega)
    · exact Ev.step (fun k => by rw [epitomeref01_first.j0, if_neg (by simp), if_neg (by omega)]) (j2 (by omega))
  by_cases h1 : 240 ≤ bN s 0
  · refine ev_if_pos (by omega) ?_
    by_cases h2 : bN s 0 < 248
    · rw [decide_eq_true (by omega)]
      exact j0t h1 h2
    · rw [decide_eq_false (by omega)]
      exact j1 (by omega)
  · exact ev_if_neg (by omega) (j1 (by omega))
end Go.Proofs.YtkgicpnnlkcaeaaDoor.F
end
section
namespace Go.Proofs.YtkgicpnnlkcaeaaDoor.F
open Go.RowKit Go.Proofs.YtkgicpnnlkcaeaaDoorW.PrintWords Go.Proofs.YtkgicpnnlkcaeaaDoorW.PrintLast Go.Proofs.YtkgicpnnlkcaeaaDoorW.PrintMore
set_option linter.unusedVariables false
set_option linter.unusedSimpArgs false
theorem u8_back (x : UInt8) {n : Nat} (h : n = x.toNat) : UInt8.ofNat n = x := by subst h; exact UInt8.ofNat_toNat
theorem decode_back (L : List UInt8) (hne : L ≠ []) (h : Lib.decodeL L ≠ (65533, 1)) : isRune ((Lib.decodeL L).1 : Int) ∧ L = (enc1 ((Lib.decodeL L).1 : Int)).map (fun n => UInt8.ofNat n.toNat) ++ L.drop (Lib.decodeL L).2 := by
  rw [Lib.decodeL_N] at h ⊢
  rcases L with _ | ⟨x0, L⟩
  · exact absurd rfl hne
  simp only [List.getD_cons_zero, List.getD_cons_succ] at h ⊢
  have q0 := UInt8.toNat_lt x0
  generalize hd : Lib.decodeN (x0 :: L).length x0.toNat (L.getD 0 0).toNat (L.getD 1 0).toNat (L.getD 2 0).toNat = d at h ⊢
  unfold Lib.decodeN at hd
  by_cases c1 : x0.toNat < 128
  · rw [if_pos c1] at hd
    rw [← hd]
    refine ⟨.inl ⟨by simp only; omega, by simp only; omega⟩, ?_⟩
    simp only
    rw [enc1_nat, if_pos c1, u8_back x0 rfl]
    rfl
  rw [if_neg c1] at hd
  by_cases c2 : x0.toNat / 32 = 6 ∧ (1 < (x0 :: L).length ∧ (L.getD 0 0).toNat / 64 = 2)
  · rw [if_pos c2] at hd
    rcases L with _ | ⟨x1, L⟩
    · simp at c2
    simp only [List.getD_cons_zero] at hd c2
    have q1 := UInt8.toNat_lt x1
    split at hd
    · next c =>
      rw [← hd]
      generalize hm : x0.toNat % 32 * 64 + x1.toNat % 64 = m at *
      refine ⟨by unfold isRune; simp only; omega, ?_⟩
      simp only
      rw [enc1_nat, if_neg (by omega), if_pos (by omega), u8_back x0 (by omega), u8_back x1 (by omega)]
      rfl
    · exact absurd hd.symm h
  rw [if_neg c2] at hd
  by_cases c3 : x0.toNat / 16 = 14 ∧ (1 < (x0 :: L).length ∧ (L.getD 0 0).toNat / 64 = 2) ∧ (2 < (x0 :: L).length ∧ (L.getD 1 0).toNat / 64 = 2)
  · rw [if_pos c3] at hd
    rcases L with _ | ⟨x1, _ | ⟨x2, L⟩⟩
    · simp at c3
    · simp at c3
    simp only [List.getD_cons_zero, List.getD_cons_succ] at hd c3
    have q1 := UInt8.toNat_lt x1
    have q2 := UInt8.toNat_lt x2
    split at hd
    · next c =>
      rw [← hd]
      generalize hm : x0.toNat % 16 * 4096 + x1.toNat % 64 * 64 + x2.toNat % 64 = m at *
      refine ⟨by unfold isRune; simp only; omega, ?_⟩
      simp only
      rw [enc1_nat, if_neg (by omega), if_neg (by omega), if_pos (by omega), u8_back x0 (by omega), u8_back x1 (by omega), u8_back x2 (by omega)]
      rfl
    · exact absurd hd.symm h
  rw [if_neg c3] at hd
  by_cases c4 : x0.toNat / 8 = 30 ∧ (1 < (x0 :: L).length ∧ (L.getD 0 0).toNat / 64 = 2) ∧ (2 < (x0 :: L).length ∧ (L.getD 1 0).toNat / 64 = 2) ∧ (3 < (x0 :: L).length ∧ (L.getD 2 0).toNat / 64 = 2)
  · rw [if_pos c4] at hd
    rcases L with _ | ⟨x1, _ | ⟨x2, _ | ⟨x3, L⟩⟩⟩
    · simp at c4
    · simp at c4
    · simp at c4
    simp only [List.getD_cons_zero, List.getD_cons_succ] at hd c4
    have q1 := UInt8.toNat_lt x1
    have q2 := UInt8.toNat_lt x2
    have q3 := UInt8.toNat_lt x3
    split at hd
    · next c =>
      rw [← hd]
      generalize hm : x0.toNat % 8 * 262144 + x1.toNat % 64 * 4096 + x2.toNat % 64 * 64 + x3.toNat % 64 = m at *
      refine ⟨by unfold isRune; simp only; omega, ?_⟩
      simp only
      rw [enc1_nat, if_neg (by omega), if_neg (by omega), if_neg (by omega), u8_back x0 (by omega), u8_back x1 (by omega), u8_back x2 (by omega), u8_back x3 (by omega)]
      rfl
    · exact absurd hd.symm h
  rw [if_neg c4] at hd
  exact absurd hd.symm h
theorem valid_ex : ∀ (n : Nat) (L : List UInt8), L.length ≤ n → Lib.validD L = true → ∃ l, Runes l ∧ L = encL l
  | _, [], _, _ => ⟨[], Runes.nil, rfl⟩
  | 0, x :: L, h, _ => by simp at h
  | n + 1, x :: L, h, hv => by
    have hne : x :: L ≠ [] := by simp
    rw [Lib.validD_step _ hne] at hv
    have hw := Lib.decodeL_width (x :: L)
    split at hv
    · cases hv
    · next hc =>
      have hb := decode_back (x :: L) hne (fun e => hc (by rw [e]; exact ⟨rfl, rfl⟩))
      obtain ⟨l, hl, e⟩ := valid_ex n _ (by rw [List.length_drop]; simp only [List.length_cons] at h ⊢; omega) hv
      refine ⟨((Lib.decodeL (x :: L)).1 : Int) :: l, ?_, ?_⟩
      · intro r hr
        rcases List.mem_cons.1 hr with rfl | hr
        · exact hb.1
        · exact hl r hr
      · rw [encL_cons, ← e]
        exact hb.2
theorem valid_text (s : ByteArray) (h : Lib.validD s.data.toList = true) : ∃ l, Runes l ∧ s = encT l := by
  obtain ⟨l, hl, e⟩ := valid_ex _ _ (Nat.le_refl _) h
  refine ⟨l, hl, ?_⟩
  apply ByteArray.ext
  apply Array.ext'
  rw [e, encT_list]
theorem tail_list (s : ByteArray) (i : Nat) : (s.extract i s.size).data.toList = s.data.toList.drop i := by
  rw [ByteArray.data_extract, Array.toList_extract, List.extract_eq_take_drop]
  rw [List.take_of_length_le]
  rw [List.length_drop, data_length]
  exact Nat.le_refl _
theorem tail_size (s : ByteArray) (i : Nat) : (s.extract i s.size).size = s.size - i := by
  rw [← data_length, tail_list, List.length_drop, data_length]
def offs (l : List Int) : List Int := (List.range (l.length + 1)).map (fun i => ((encT (l.take i)).size : Int))
theorem offs_length (l : List Int) : (offs l).length = l.length + 1 := by simp [offs]
theorem offs_snoc (l : List Int) (r : Int) : offs (l ++ [r]) = offs l ++ [((encT (l ++ [r])).size : Int)] := by
  unfold offs
  rw [show (l ++ [r]).length + 1 = (l.length + 1) + 1 by simp, List.range_succ, List.map_append]
  congr 1
  · refine List.map_congr_left (fun i hi => ?_)
    have := List.mem_range.1 hi
    rw [List.take_append_of_le_length (by omega)]
  · rw [List.map_cons, List.map_nil, List.take_of_length_le (by simp)]
theorem starts_loop (l : List Int) (hl : Runes l) (hb : l.length ≤ 1099511627776) : ∀ (r pre : List Int), l = pre ++ r →
    Ev (fun k => epitomeref01_Starts.l0 k (encT l) (offs pre) ((encT pre).size : Int)) (offs l, true)
  | [], pre, h => by
    rw [List.append_nil] at h
    subst h
    refine Ev.step (f := fun _ => some (offs l, true)) (fun k => ?_) (Ev.now _)
    rw [epitomeref01_Starts.l0, if_neg (by omega)]
  | t :: r, pre, h => by
    have hbig := big_enc hb
    have hlt := encT_lt pre t r
    rw [← h] at hlt
    have hr : isRune t := hl t (by rw [h]; simp)
    have ih := starts_loop l hl hb r (pre ++ [t]) (by simp [h])
    rw [offs_snoc] at ih
    have hsn := encT_snoc_size pre t
    have e1 := enc1_length t
    have hll : pre.length + (r.length + 1) = l.length := by rw [h]; simp
    have hd : Lib.decodeL ((encT l).extract (encT pre).size (encT l).size).data.toList = (t.toNat, (enc1 t).length) := by
      rw [tail_list, Lib.decodeL_drop, h]
      exact decode_at_enc pre t r hr
    have hf : firstD ((encT l).extract (encT pre).size (encT l).size) = (t, ((enc1 t).length : Int)) := by
      unfold firstD
      rw [tail_size, if_neg (by omega), hd, if_neg]
      · have : ((t.toNat : Nat) : Int) = t := by unfold isRune at hr; omega
        rw [this]
      · intro e
        injection e with e1 e2
        have ht : t = 65533 := by unfold isRune at hr; omega
        subst ht
        simp [enc1] at e2
    refine Ev.step (f := fun k => _) (fun k => by rw [epitomeref01_Starts.l0, if_pos (by omega), if_pos (by omega), if_pos (by omega), Int.toNat_natCast]) ?_
    have hF := first_is ((encT l).extract (encT pre).size (encT l).size)
    rw [hf] at hF
    refine Ev.bind hF ?_
    refine ev_if_neg (show ¬ (((enc1 t).length : Int) = 0) by omega) (ev_if_pos (by rw [offs_length]; omega) ?_)
    rw [show wrap64 (((encT pre).size : Int) + ((enc1 t).length : Int)) = ((encT (pre ++ [t])).size : Int) by rw [w64 (by omega) (by omega)]; omega]
    exact ih
theorem starts_enc (l : List Int) (hl : Runes l) (hb : l.length ≤ 1099511627776) : Ev (fun k => epitomeref01_Starts.f k (encT l)) (offs l, true) := by
  unfold epitomeref01_Starts.f
  exact starts_loop l hl hb l [] rfl
theorem starts_bad_loop (s : ByteArray) (hs : s.size ≤ 4398046511104) : ∀ (n i : Nat) (acc : List Int), s.size ≤ i + n → i ≤ s.size → acc.length ≤ i + 1 → Lib.validD (s.data.toList.drop i) = false →
    Ev (fun k => epitomeref01_Starts.l0 k s acc (i : Int)) ([], false)
  | 0, i, acc, h1, h2, h3, hv => by
    have : s.data.toList.drop i = [] := List.drop_eq_nil_of_le (by rw [data_length]; omega)
    rw [this] at hv
    cases hv
  | n + 1, i, acc, h1, h2, h3, hv => by
    by_cases hne : s.data.toList.drop i = []
    · rw [hne] at hv
      cases hv
    have hlt : i < s.size := by
      rcases Nat.lt_or_ge i s.size with h | h
      · exact h
      · exact absurd (List.drop_eq_nil_of_le (by rw [data_length]; omega)) hne
    rw [Lib.validD_step _ hne] at hv
    have hw := Lib.decodeL_width (s.data.toList.drop i)
    refine Ev.step (f := fun k => _) (fun k => by rw [epitomeref01_Starts.l0, if_pos (by omega), if_pos (by omega), if_pos (by omega), Int.toNat_natCast]) ?_
    refine Ev.bind (first_is (s.extract i s.size)) ?_
    unfold firstD
    rw [tail_size, if_neg (by omega), tail_list]
    generalize hd : Lib.decodeL (s.data.toList.drop i) = d at *
    by_cases he : d = (65533, 1)
    · rw [if_pos he]
      exact ev_if_pos rfl (Ev.now _)
    · rw [if_neg he]
      refine ev_if_neg (show ¬ ((d.2 : Nat) : Int) = 0 by omega) (ev_if_pos (by omega) ?_)
      have hn : ¬ (d.1 = 65533 ∧ d.2 = 1) := fun e => he (Prod.ext e.1 e.2)
      rw [if_neg hn, List.drop_drop] at hv
      have hin : i + d.2 ≤ s.size := by
        rcases Nat.lt_or_ge s.size (i + d.2) with h | h
        · exfalso
          rw [List.drop_eq_nil_of_le (by rw [data_length]; omega)] at hv
          cases hv
        · exact h
      rw [show wrap64 ((i : Int) + (d.2 : Int)) = ((i + d.2 : Nat) : Int) by rw [w64 (by omega) (by omega)]; omega]
      exact starts_bad_loop s hs n (i + d.2) _ (by omega) hin (by simp; omega) hv
theorem starts_bad (s : ByteArray) (hs : s.size ≤ 4398046511104) (h : Lib.validD s.data.toList = false) : Ev (fun k => epitomeref01_Starts.f k s) ([], false) := by
  unfold epitomeref01_Starts.f
  exact starts_bad_loop s hs s.size 0 [0] (by omega) (by omega) (by simp) (by simpa using h)
theorem refValid_is (s : ByteArray) (hs : s.size ≤ 1099511627776) : Ev (fun k => epitomeref01_Valid.f k s) (Lib.validD s.data.toList) := by
  unfold epitomeref01_Valid.f
  cases h : Lib.validD s.data.toList with
  | true =>
    obtain ⟨l, hl, rfl⟩ := valid_text s h
    have := (encT_size l).1
    exact Ev.bind (starts_enc l hl (by omega)) (Ev.now _)
  | false => exact Ev.bind (starts_bad s (by omega) h) (Ev.now _)
end Go.Proofs.YtkgicpnnlkcaeaaDoor.F
end
section
namespace Go.Proofs.YtkgicpnnlkcaeaaDoor.F
open Go.RowKit Go.Proofs.YtkgicpnnlkcaeaaDoorW.PrintWords Go.Proofs.YtkgicpnnlkcaeaaDoorW.PrintLast Go.Proofs.YtkgicpnnlkcaeaaDoorW.PrintMore
set_option linter.unusedVariables false
set_option linter.unusedSimpArgs false
def spMayD (s : Sp) : Int := if s.f0 = 1 ∨ s.f0 = 3 then (if s.f1 < 0 ∨ s.f1 > 1048576 then 2 else if s.f2.toList = [] then 0 else 3) else if s.f0 = 2 then (if s.f1 = 0 then (if Lib.validD s.f2.data.toList = true then 0 else 3) else 2) else 1
theorem spanMay_all (s : Sp) (hs : s.f2.size ≤ 1099511627776) : Ev (fun k => span_May.f k s.f0 s.f1 s.f2) (spMayD s) := by
  obtain ⟨a0, a1, a2⟩ := s
  simp only at hs ⊢
  have hv : points_Valid.f a2 = some (Lib.validD a2.data.toList) := valid_some (by omega) rfl
  have j1t : ∀ x b, Ev (fun k => span_May.j1 k true a0 a1 a2 x b) 2 := by
    intro x b
    refine Ev.step (f := fun _ => some 2) (fun k => ?_) (Ev.now _)
    rw [span_May.j1, if_pos rfl]
  have j0t : ∀ x b, Ev (fun k => span_May.j0 k true a0 a1 a2 x b) 2 := by
    intro x b
    refine Ev.step (fun k => ?_) (j1t x b)
    rw [span_May.j0, if_pos rfl]
  have j2f : ∀ v, (if Lib.validD a2.data.toList = true then (0 : Int) else 3) = v → Ev (fun k => span_May.j2 k false a0 a1 a2) v := by
    rintro v rfl
    refine Ev.step (f := fun _ => some (if Lib.validD a2.data.toList = true then (0 : Int) else 3)) (fun k => ?_) (Ev.now _)
    rw [span_May.j2, if_neg (by simp), hv, Option.bind_some]
    split <;> rfl
  have takes : ∀ (k3 : Int) (b : Bool), a0 = k3 → (k3 = 1 ∨ k3 = 3) → span_of.f a0 a1 a2 = some (true, b, true) → Ev (fun k => span_May.f k a0 a1 a2) (spMayD ⟨a0, a1, a2⟩) := by
    intro k3 b e0 e1 e2
    unfold span_May.f spMayD
    simp only
    rw [if_pos (by omega)]
    refine ev_some e2 (ev_if_pos rfl (ev_if_pos rfl ?_))
    by_cases c1 : a1 < 0
    · rw [if_pos (.inl c1)]
      exact ev_if_pos c1 (j0t _ _)
    · refine ev_if_neg c1 ?_
      by_cases c2 : a1 > 1048576
      · rw [if_pos (.inr c2), decide_eq_true c2]
        exact j0t _ _
      · rw [if_neg (by omega), decide_eq_false c2]
        refine Ev.step (f := fun k => span_May.j1 k false a0 a1 a2 true b) (fun k => by rw [span_May.j0, if_neg (by simp), if_pos rfl]) ?_
        refine Ev.step (f := fun k => span_May.j2 k (a2.toList != []) a0 a1 a2) (fun k => by rw [span_May.j1, if_neg (by simp), if_pos rfl]) ?_
        by_cases c3 : a2.toList = []
        · rw [if_pos c3, show (a2.toList != ([] : List UInt8)) = false by simp [c3]]
          refine j2f 0 ?_
          have : a2.data.toList = [] := by rw [← ByteArray.toList_eq, c3]
          rw [this]
          rfl
        · rw [if_neg c3, show (a2.toList != ([] : List UInt8)) = true by simp [c3]]
          refine Ev.step (f := fun _ => some 3) (fun k => ?_) (Ev.now _)
          rw [span_May.j2, if_pos rfl]
  by_cases c1 : a0 = 1
  · subst c1
    exact takes 1 true rfl (.inl rfl) rfl
  by_cases c3 : a0 = 3
  · subst c3
    exact takes 3 false rfl (.inr rfl) rfl
  unfold span_May.f spMayD
  simp only
  rw [if_neg (by omega)]
  by_cases c2 : a0 = 2
  · subst c2
    rw [if_pos rfl]
    refine ev_some (show span_of.f 2 a1 a2 = some (false, false, true) from rfl) (ev_if_pos rfl (ev_if_neg (by simp) ?_))
    refine Ev.step (f := fun k => span_May.j1 k (a1 != 0) 2 a1 a2 false false) (fun k => by rw [span_May.j0, if_neg (by simp), if_neg (by simp)]) ?_
    by_cases c4 : a1 = 0
    · rw [if_pos c4, show (a1 != 0) = false by simp [c4]]
      refine Ev.step (fun k => ?_) (j2f _ rfl)
      rw [span_May.j1, if_neg (by simp), if_neg (by simp)]
    · rw [if_neg c4, show (a1 != 0) = true by simp [c4]]
      exact j1t _ _
  · rw [if_neg c2]
    have : span_of.f a0 a1 a2 = some (false, false, false) := by unfold span_of.f; rw [if_neg c1, if_neg c2, if_neg c3]
    exact ev_some this (ev_if_neg (by simp) (Ev.now _))
theorem refMay_all (s : Sp) (hs : s.f2.size ≤ 1099511627776) : Ev (fun k => epitomeref03_May.f k s.f0 s.f1 s.f2) (spMayD s) := by
  obtain ⟨a0, a1, a2⟩ := s
  simp only at hs ⊢
  have j1t : Ev (fun k => epitomeref03_May.j1 k true a0 a1 a2) 2 := by
    refine Ev.step (f := fun _ => some 2) (fun k => ?_) (Ev.now _)
    rw [epitomeref03_May.j1, if_pos rfl]
  have takes : (a0 = 1 ∨ a0 = 3) → Ev (fun k => epitomeref03_May.j0 k a0 true a0 a1 a2) (spMayD ⟨a0, a1, a2⟩) := by
    intro e
    refine Ev.step (f := fun k => _) (fun k => by rw [epitomeref03_May.j0, if_pos rfl]) ?_
    unfold spMayD
    simp only
    rw [if_pos e]
    by_cases c1 : a1 < 0
    · rw [if_pos (.inl c1)]
      exact ev_if_pos c1 j1t
    · refine ev_if_neg c1 ?_
      by_cases c2 : a1 > 1048576
      · rw [if_pos (.inr c2), decide_eq_true c2]
        exact j1t
      · rw [if_neg (by omega), decide_eq_false c2]
        refine Ev.step (f := fun _ => some (if a2.toList = [] then 0 else 3)) (fun k => ?_) (Ev.now _)
        rw [epitomeref03_May.j1, if_neg (by simp)]
        split <;> rfl
  unfold epitomeref03_May.f
  by_cases c1 : a0 = 1
  · refine ev_if_pos c1 ?_
    rw [show (a0 == 1) = true by simp [c1]]
    exact takes (.inl c1)
  refine ev_if_neg c1 ?_
  by_cases c3 : a0 = 3
  · rw [show (a0 == 3) = true by simp [c3]]
    exact takes (.inr c3)
  rw [show (a0 == 3) = false by simp [c3]]
  refine Ev.step (f := fun k => _) (fun k => by rw [epitomeref03_May.j0, if_neg (by simp)]) ?_
  unfold spMayD
  simp only
  rw [if_neg (by omega)]
  by_cases c2 : a0 = 2
  · rw [if_pos c2]
    refine ev_if_pos c2 ?_
    by_cases c4 : a1 = 0
    · rw [if_pos c4]
      refine ev_if_pos c4 (Ev.bind (refValid_is a2 hs) ?_)
      by_cases c5 : Lib.validD a2.data.toList = true
      · simp only [if_pos c5]
        exact Ev.now _
      · simp only [if_neg c5]
        exact Ev.now _
    · rw [if_neg c4]
      exact ev_if_neg c4 (Ev.now _)
  · rw [if_neg c2]
    exact ev_if_neg c2 (Ev.now _)
theorem spMay_un (s : Sp) (hs : s.f2.size ≤ 1099511627776) (h : spMayD s = 0) : ∃ u : Un, s = u.sp ∧ u.ok ∧ u.cin ≤ 1048576 ∧ u.cout ≤ 1048576 + s.f2.size := by
  obtain ⟨a0, a1, a2⟩ := s
  unfold spMayD at h
  simp only at h hs
  have emp : a2.toList = [] → a2 = ⟨#[]⟩ := by
    intro e
    apply toList_inj
    rw [e, ByteArray.toList_eq]
  split at h
  · next c =>
    split at h
    · omega
    · next c1 =>
      split at h
      · next c2 =>
        have := emp c2
        subst this
        obtain ⟨n, rfl⟩ : ∃ n : Nat, a1 = (n : Int) := ⟨a1.toNat, by omega⟩
        rcases c with rfl | rfl
        · exact ⟨.keep n, rfl, trivial, by show n ≤ _; omega, by show n ≤ _; omega⟩
        · exact ⟨.drop n, rfl, trivial, by show n ≤ _; omega, Nat.zero_le _⟩
      · omega
  · split at h
    · next c =>
      split at h
      · next c1 =>
        split at h
        · next c2 =>
          obtain ⟨l, hl, rfl⟩ := valid_text a2 c2
          subst c
          subst c1
          have := (encT_size l).1
          exact ⟨.put l, rfl, hl, Nat.zero_le _, by show l.length ≤ 1048576 + (encT l).size; omega⟩
        · omega
      · omega
    · omega
def opMayD : List Sp → Int
  | [] => 0
  | s :: r => if spMayD s = 0 then opMayD r else spMayD s
theorem opMay_un : ∀ (l : List Sp), (∀ s ∈ l, s.f2.size ≤ 1048576) → opMayD l = 0 → ∃ us : List Un, l = us.map Un.sp ∧ (∀ u ∈ us, u.ok) ∧ (us.map Un.cin).sum ≤ 1048576 * l.length ∧ (us.map Un.cout).sum ≤ 2097152 * l.length
  | [], _, _ => ⟨[], rfl, by simp, by simp, by simp⟩
  | s :: r, h, e => by
    rw [opMayD] at e
    have hs := h s (by simp)
    split at e
    · next c =>
      obtain ⟨u, e1, e2, e3, e4⟩ := spMay_un s (by omega) c
      obtain ⟨us, d1, d2, d3, d4⟩ := opMay_un r (fun x hx => h x (by simp [hx])) e
      refine ⟨u :: us, by rw [e1, d1]; rfl, ?_, ?_, ?_⟩
      · intro v hv
        rcases List.mem_cons.1 hv with rfl | hv
        · exact e2
        · exact d2 v hv
      · simp only [List.map_cons, List.sum_cons, List.length_cons]; omega
      · simp only [List.map_cons, List.sum_cons, List.length_cons]; omega
    · next c => exact absurd e c
theorem rowSum_big (l : List Un) (hl : l.length ≤ 2097152) (hc : (l.map Un.cin).sum ≤ 4611686018427387904) : ∀ (r pre : List Un), l = pre ++ r →
    Ev (fun k => op_row_sum.l0 k (((pre.map Un.cin).sum : Nat) : Int) (l.map Un.sp) ((l.map Un.sp).length : Int) (pre.length : Int)) (((l.map Un.cin).sum : Nat) : Int) ∧
    Ev (fun k => epitomeref04_In.l0 k (l.map Un.sp) (((pre.map Un.cin).sum : Nat) : Int) (pre.length : Int)) (((l.map Un.cin).sum : Nat) : Int)
  | [], pre, h => by
    refine ⟨Ev.step (f := fun _ => some (((l.map Un.cin).sum : Nat) : Int)) (fun k => ?_) (Ev.now _), Ev.step (f := fun _ => some (((l.map Un.cin).sum : Nat) : Int)) (fun k => ?_) (Ev.now _)⟩
    · rw [op_row_sum.l0, if_neg (by subst h; simp)]
      subst h
      simp
    · rw [epitomeref04_In.l0, if_neg (by subst h; simp)]
      subst h
      simp
  | u :: r, pre, h => by
    have hlt : (pre.length : Int) < ((l.map Un.sp).length : Int) := by subst h; simp <;> omega
    have hll : pre.length + (r.length + 1) = l.length := by subst h; simp
    have hrd : rd_T33 (l.map Un.sp) (pre.length : Int) = u.sp := by
      rw [h, List.map_append, List.map_cons]
      exact rdS_at (by simp)
    have hs : (l.map Un.cin).sum = (pre.map Un.cin).sum + (u.cin + (r.map Un.cin).sum) := by rw [h]; simp
    have ih := rowSum_big l hl hc r (pre ++ [u]) (by simp [h])
    have hin : epitomeref03_In.f u.sp.f0 u.sp.f1 u.sp.f2 = some (u.cin : Int) := by cases u <;> rfl
    refine ⟨Ev.step (fun k => ?_) ih.1, Ev.step (fun k => ?_) ih.2⟩
    · rw [op_row_sum.l0, if_pos hlt, if_pos (by omega), if_pos hlt, hrd, spanIn_is, Option.bind_some, w64_succ _ (by omega), w64 (by omega) (by omega)]
      simp
    · rw [epitomeref04_In.l0, if_pos hlt, if_pos (by omega), hrd, hin, Option.bind_some, w64_succ _ (by omega), w64 (by omega) (by omega)]
      simp
theorem refIn_is {us : List Un} (h : Ok us) : Ev (fun k => epitomeref04_In.f k (us.map Un.sp)) (((us.map Un.cin).sum : Nat) : Int) := by
  unfold epitomeref04_In.f
  have hc := h.cin
  exact (rowSum_big us h.len (by omega) us [] rfl).2
theorem may_loop (l : List Sp) (hl : l.length ≤ 2097152) (hz : ∀ s ∈ l, s.f2.size ≤ 1048576) (e : Int) (hin : opMayD l = 0 → Ev (fun k => (op_In.f k l).bind fun t104 => if t104 > 1048576 then some 4 else some 0) e ∧ Ev (fun k => (epitomeref04_In.f k l).bind fun t104 => if t104 > 1048576 then some 4 else some 0) e) (hno : opMayD l ≠ 0 → e = opMayD l) :
    ∀ (r pre : List Sp), l = pre ++ r → opMayD l = opMayD r →
    Ev (fun k => op_May.l0 k l l (l.length : Int) (pre.length : Int)) e ∧ Ev (fun k => epitomeref04_May.l0 k l (pre.length : Int)) e
  | [], pre, h, hm => by
    have := hin hm
    refine ⟨Ev.step (fun k => ?_) this.1, Ev.step (fun k => ?_) this.2⟩
    · rw [op_May.l0, if_neg (by subst h; simp)]
    · rw [epitomeref04_May.l0, if_neg (by subst h; simp)]
  | s :: r, pre, h, hm => by
    have hlt : (pre.length : Int) < (l.length : Int) := by subst h; simp <;> omega
    have hll : pre.length + (r.length + 1) = l.length := by subst h; simp
    have hrd : rd_T33 l (pre.length : Int) = s := by
      rw [h]
      exact rdS_at rfl
    have hs := hz s (by rw [h]; simp)
    by_cases c : spMayD s = 0
    · rw [opMayD, if_pos c] at hm
      have ih := may_loop l hl hz e hin hno r (pre ++ [s]) (by simp [h]) hm
      refine ⟨Ev.step (f := fun k => _) (fun k => by rw [op_May.l0, if_pos hlt, if_pos (by omega), if_pos hlt, hrd, w64_succ _ (by omega)]) ?_, Ev.step (f := fun k => _) (fun k => by rw [epitomeref04_May.l0, if_pos hlt, if_pos (by omega), hrd, w64_succ _ (by omega)]) ?_⟩
      · refine Ev.bind (spanMay_all s (by omega)) (ev_if_pos c ?_)
        simpa using ih.1
      · refine Ev.bind (refMay_all s (by omega)) (ev_if_pos c ?_)
        simpa using ih.2
    · rw [opMayD, if_neg c] at hm
      have he : e = spMayD s := by rw [hno (by rw [hm]; exact c), hm]
      subst he
      refine ⟨Ev.step (f := fun k => _) (fun k => by rw [op_May.l0, if_pos hlt, if_pos (by omega), if_pos hlt, hrd, w64_succ _ (by omega)]) ?_, Ev.step (f := fun k => _) (fun k => by rw [epitomeref04_May.l0, if_pos hlt, if_pos (by omega), hrd, w64_succ _ (by omega)]) ?_⟩
      · exact Ev.bind (spanMay_all s (by omega)) (ev_if_neg c (Ev.now _))
      · exact Ev.bind (refMay_all s (by omega)) (ev_if_neg c (Ev.now _))
theorem may_all (l : List Sp) (hl : l.length ≤ 500000) (hz : ∀ s ∈ l, s.f2.size ≤ 1048576) : ∃ e : Int, Ev (fun k => op_May.f k l) e ∧ Ev (fun k => epitomeref04_May.f k l) e ∧ (e = 0 → ∃ us, l = us.map Un.sp ∧ Ok us) := by
  unfold op_May.f epitomeref04_May.f
  by_cases h0 : opMayD l = 0
  · obtain ⟨us, e1, e2, e3, e4⟩ := opMay_un l hz h0
    have hul : us.length = l.length := by rw [e1]; simp
    have hsum := rowSum_big us (by omega) (by omega) us [] rfl
    have i1 : Ev (fun k => op_In.f k l) (((us.map Un.cin).sum : Nat) : Int) := by
      unfold op_In.f op_row_sum.f
      rw [e1]
      exact Ev.bind hsum.1 (Ev.now _)
    have i2 : Ev (fun k => epitomeref04_In.f k l) (((us.map Un.cin).sum : Nat) : Int) := by
      unfold epitomeref04_In.f
      rw [e1]
      exact hsum.2
    by_cases hb : (us.map Un.cin).sum ≤ 1048576
    · have := may_loop l (by omega) hz 0 (fun _ => ⟨Ev.bind i1 (ev_if_neg (by omega) (Ev.now _)), Ev.bind i2 (ev_if_neg (by omega) (Ev.now _))⟩) (fun h => absurd h0 h) l [] rfl rfl
      exact ⟨0, this.1, this.2, fun _ => ⟨us, e1, e2, by omega, hb, by omega⟩⟩
    · have := may_loop l (by omega) hz 4 (fun _ => ⟨Ev.bind i1 (ev_if_pos (by omega) (Ev.now _)), Ev.bind i2 (ev_if_pos (by omega) (Ev.now _))⟩) (fun h => absurd h0 h) l [] rfl rfl
      exact ⟨4, this.1, this.2, fun h => by omega⟩
  · have := may_loop l (by omega) hz (opMayD l) (fun h => absurd h h0) (fun _ => rfl) l [] rfl rfl
    exact ⟨opMayD l, this.1, this.2, fun h => absurd h h0⟩
end Go.Proofs.YtkgicpnnlkcaeaaDoor.F
end
section
namespace Go.Proofs.YtkgicpnnlkcaeaaDoor.F
open Go.RowKit Go.Proofs.YtkgicpnnlkcaeaaDoorW.PrintWords Go.Proofs.YtkgicpnnlkcaeaaDoorW.PrintLast Go.Proofs.YtkgicpnnlkcaeaaDoorW.PrintMore
set_option linter.unusedVariables false
set_option linter.unusedSimpArgs false
theorem refNorm_loop (l : List Sp) (hl : l.length < 4398046511104) : ∀ (r pre : List Sp), l = pre ++ r →
    (sizeS r ≤ 9223372036854775807 → Ev (fun k => epitomeref05_Of.l0 k l [] (pre.length : Int)) (norm r)) ∧
    ∀ (q : List Sp) (cur : Sp), q.length + 1 ≤ pre.length → cur.f2.size + sizeS r ≤ 9223372036854775807 →
      Ev (fun k => epitomeref05_Of.l0 k l (q ++ [cur]) (pre.length : Int)) (q ++ runs cur (r.filter (fun s => !emptyS s)))
  | [], pre, h => by
    constructor
    · intro _
      refine Ev.step (f := fun _ => some []) (fun k => ?_) (Ev.now _)
      rw [epitomeref05_Of.l0, if_neg (by subst h; simp)]
    · intro q cur hq hs
      refine Ev.step (f := fun _ => some (q ++ [cur])) (fun k => ?_) (Ev.now _)
      rw [epitomeref05_Of.l0, if_neg (by subst h; simp)]
  | t :: r, pre, h => by
    have hlt : (pre.length : Int) < (l.length : Int) := by subst h; simp <;> omega
    have hrd : rd_T33 l (pre.length : Int) = t := by rw [h]; exact rdS_at rfl
    obtain ⟨n1, n2⟩ := refNorm_loop l hl r (pre ++ [t]) (by simp [h])
    have w1 : wrap64 ((pre.length : Int) + 1) = ((pre ++ [t]).length : Int) := by rw [w64 (by omega) (by omega)]; simp
    have hsz : sizeS (t :: r) = t.f2.size + sizeS r := by simp [sizeS]
    have head : ∀ x3 : List Sp, ∀ w, Ev (fun k => epitomeref05_Of.j1 k l x3 (pre.length : Int) (emptyS t) t.f0 t.f1 t.f2) w → Ev (fun k => epitomeref05_Of.l0 k l x3 (pre.length : Int)) w := by
      intro x3 w hw
      refine Ev.step (f := fun k => epitomeref05_Of.j1 k l x3 (pre.length : Int) (emptyS t) t.f0 t.f1 t.f2) (fun k => ?_) hw
      rw [epitomeref05_Of.l0, if_pos hlt, if_pos (by omega), hrd]
      by_cases h1 : t.f1 = 0
      · rw [if_pos h1]; simp [emptyS, h1]
      · rw [if_neg h1]; simp [emptyS, h1]
    constructor
    · intro hs
      refine head _ _ ?_
      cases he : emptyS t with
      | true =>
        refine Ev.step (f := fun k => epitomeref05_Of.l0 k l [] ((pre ++ [t]).length : Int)) (fun k => by rw [epitomeref05_Of.j1, if_pos rfl, w1]) ?_
        have : norm (t :: r) = norm r := by simp [norm, he]
        rw [this]
        exact n1 (by omega)
      | false =>
        refine Ev.step (f := fun k => epitomeref05_Of.l0 k l ([] ++ [t]) ((pre ++ [t]).length : Int)) (fun k => by rw [epitomeref05_Of.j1, if_neg (by simp), if_neg (by simp), if_pos (by simp), w1]) ?_
        have : norm (t :: r) = [] ++ runs t (r.filter (fun s => !emptyS s)) := by simp [norm, he, mergeS]
        rw [this]
        exact n2 [] t (by simp) (by omega)
    · intro q cur hq hs
      refine head _ _ ?_
      cases he : emptyS t with
      | true =>
        refine Ev.step (f := fun k => epitomeref05_Of.l0 k l (q ++ [cur]) ((pre ++ [t]).length : Int)) (fun k => by rw [epitomeref05_Of.j1, if_pos rfl, w1]) ?_
        have : (t :: r).filter (fun s => !emptyS s) = r.filter (fun s => !emptyS s) := by simp [he]
        rw [this]
        exact n2 q cur (by simp; omega) (by omega)
      | false =>
        have hf : (t :: r).filter (fun s => !emptyS s) = t :: r.filter (fun s => !emptyS s) := by simp [he]
        have hqc : (q ++ [cur]).length = q.length + 1 := by simp
        have hq1 : wrap64 (((q ++ [cur]).length : Int) - 1) = q.length := by rw [w64 (by omega) (by omega)]; simp
        have hcur : rd_T33 (q ++ [cur]) (q.length : Int) = cur := rdS_at rfl
        have hql : q.length + 1 ≤ l.length := by omega
        rw [hf]
        by_cases hk : cur.f0 = t.f0
        · refine Ev.step (f := fun k => epitomeref05_Of.l0 k l (q ++ [joinS cur t]) ((pre ++ [t]).length : Int)) (fun k => ?_) ?_
          · rw [epitomeref05_Of.j1, if_neg (by simp), if_pos (by omega), hq1, if_pos (by omega), if_pos (by omega), hcur, if_pos hk, Option.bind_some, setS_at rfl]
            simp only [rdS_at (c := (⟨cur.f0, wrap64 (cur.f1 + t.f1), cur.f2⟩ : Sp)) (r := []) (pre := q) rfl]
            rw [if_pos (by omega), setS_at rfl, w1]
            rfl
          · rw [runs, if_pos hk.symm]
            exact n2 q (joinS cur t) (by simp; omega) (by simp [joinS, ByteArray.size_append]; omega)
        · refine Ev.step (f := fun k => epitomeref05_Of.l0 k l ((q ++ [cur]) ++ [t]) ((pre ++ [t]).length : Int)) (fun k => ?_) ?_
          · rw [epitomeref05_Of.j1, if_neg (by simp), if_pos (by omega), hq1, if_pos (by omega), if_pos (by omega), hcur, if_neg hk, if_pos (by simp; omega), w1]
          · rw [runs, if_neg (fun h => hk h.symm)]
            have := n2 (q ++ [cur]) t (by simp; omega) (by omega)
            simpa using this
theorem refNorm_is (l : List Sp) (hl : l.length < 4398046511104) (hs : sizeS l ≤ 9223372036854775807) : Ev (fun k => epitomeref05_Of.f k l) (norm l) := by
  unfold epitomeref05_Of.f
  exact (refNorm_loop l hl l [] rfl).1 hs
end Go.Proofs.YtkgicpnnlkcaeaaDoor.F
end
section
namespace Go.Proofs.YtkgicpnnlkcaeaaDoor.F
open Go.RowKit Go.Proofs.YtkgicpnnlkcaeaaDoorW.PrintWords Go.Proofs.YtkgicpnnlkcaeaaDoorW.PrintLast Go.Proofs.YtkgicpnnlkcaeaaDoorW.PrintMore
set_option linter.unusedVariables false
set_option linter.unusedSimpArgs false
def shownU : List Un := [.keep 1, .drop 1, .put [120]]
theorem shownU_sp : shownU.map Un.sp = ([(⟨1, 1, (⟨#[]⟩ : ByteArray)⟩ : Sp), (⟨3, 1, (⟨#[]⟩ : ByteArray)⟩ : Sp), (⟨2, 0, (⟨#[120]⟩ : ByteArray)⟩ : Sp)] : List Sp) := rfl
theorem shownU_ok : Ok shownU := by
  refine ⟨?_, by decide, by decide, by decide⟩
  intro u hu
  simp [shownU] at hu
  rcases hu with rfl | rfl | rfl
  · trivial
  · trivial
  · intro r hr
    simp at hr
    subst hr
    exact .inl (by decide)
theorem shown06 : Ev (fun k => epitomelaw06_shown.f k) true := by
  unfold epitomelaw06_shown.f
  rw [← shownU_sp]
  refine Ev.bind (gapsOf_is shownU_ok (by decide)) (ev_if_pos rfl ?_)
  have := same6_is ((gpP (exU shownU)).map encT) ([(⟨#[]⟩ : ByteArray), (⟨#[]⟩ : ByteArray), (⟨#[120]⟩ : ByteArray)] : List ByteArray) (gpG (exU shownU)) [false, true] (by decide) (by decide)
  refine Ev.bind this ?_
  rw [show decide ((gpP (exU shownU)).map encT = ([(⟨#[]⟩ : ByteArray), (⟨#[]⟩ : ByteArray), (⟨#[120]⟩ : ByteArray)] : List ByteArray) ∧ gpG (exU shownU) = [false, true]) = true from decide_eq_true ⟨rfl, rfl⟩]
  exact Ev.now _
end Go.Proofs.YtkgicpnnlkcaeaaDoor.F
end
section
namespace Go.Proofs.YtkgicpnnlkcaeaaDoor.F
open Go.RowKit Go.Proofs.YtkgicpnnlkcaeaaDoorW.PrintWords Go.Proofs.YtkgicpnnlkcaeaaDoorW.PrintLast Go.Proofs.YtkgicpnnlkcaeaaDoorW.PrintMore
set_option linter.unusedVariables false
set_option linter.unusedSimpArgs false
theorem bools_of_struct {H : Type} {enc : TypeId × Value → H} {P : Program} {w : World} {base : Nat} {sp : Nat → Bool} {held : Bool} {fuel : Nat} {t : TypeId} {fs : Array Field} {cs : List Value} {zs : List Bool} {p : List MemPlace} (ht : P.underlying t = some (.struct fs))
    (hf : ∀ (i : Nat) (f : Field), fs[i]? = some f → P.underlying f.type = some .bool ∧ f.offset = i ∧ P.cellsOf f.type = 1) (hct : P.cellsOf t = fs.size)
    (h : DataW.trod enc P w base sp held fuel t cs = some (.agg (zs.map fun z => .lit (.bool z)), p)) : cs = zs.map fun z => Value.bool z := by
  obtain ⟨xs, n, rfl, hx, hl, hxl, hall⟩ := DataW.trod_struct ht h
  have hxs : xs.map (·.1) = zs.map fun z => (DataW.lit (.bool z) : DataW H) := by
    have := congrArg Prod.fst hx
    simpa using this.symm
  have hzl : zs.length = fs.size := by
    have := congrArg List.length hxs
    simp at this
    omega
  apply List.ext_getElem?
  intro i
  by_cases hi : i < fs.size
  · obtain ⟨hu, ho, hc⟩ := hf i fs[i] (by simp [hi])
    have h1 := hall i fs[i] (by simp [hi])
    obtain ⟨b, hb⟩ : ∃ b, xs[i]? = some b := ⟨xs[i]'(by omega), List.getElem?_eq_getElem (by omega)⟩
    rw [hb, ho, hc] at h1
    obtain ⟨z, hcz, rfl⟩ := DataW.trod_bool hu h1
    have h2 : cs[i]? = some (.bool z) := by
      have := congrArg (·[0]?) hcz
      simpa [List.getElem?_take, List.getElem?_drop] using this
    have h3 : (xs.map (·.1))[i]? = some (DataW.lit (.bool z) : DataW H) := by simp [hb]
    rw [hxs] at h3
    simp only [List.getElem?_map, Option.map_eq_some_iff, DataW.lit.injEq, Lit.bool.injEq] at h3
    obtain ⟨z', hz', rfl⟩ := h3
    simp [h2, hz']
  · rw [List.getElem?_eq_none (by omega), List.getElem?_eq_none (by simp; omega)]
theorem kinds_of_reads {W : World} (h : Lib.VarReads Tryd.prog W "epitome/span.kinds" Rows.laid_epitome_span_kinds) (i : Nat) (hi : i < 4) :
    W.cell? ⟨0, 2 * i, none⟩ = some (.bool (decide (i = 1 ∨ i = 3))) ∧ W.cell? ⟨0, 2 * i + 1, none⟩ = some (.bool (decide (i = 1))) := by
  obtain ⟨g, t, cs, fuel, p, hg, hty, hvar, hd⟩ := h
  have n0 : Tryd.prog.globalNamed "epitome/span.kinds" = some 0 := by kernel_rfl
  have y0 : (Tryd.prog.globals[0]?).map (·.type) = some 97 := by kernel_rfl
  have c4 : Tryd.prog.cellsOf 4 = 1 := by kernel_rfl
  have c90 : Tryd.prog.cellsOf 90 = 2 := by kernel_rfl
  obtain rfl := Option.some.inj (n0.symm.trans hg)
  obtain rfl := Option.some.inj (y0.symm.trans hty)
  obtain ⟨fuel', d, q, hdi, he⟩ := Lib.array_elem Tryd.underlying97 hd i hi
  have hdd : d = .agg ([decide (i = 1 ∨ i = 3), decide (i = 1)].map fun z => .lit (.bool z)) := by
    have : i = 0 ∨ i = 1 ∨ i = 2 ∨ i = 3 := by omega
    rcases this with rfl | rfl | rfl | rfl <;> (simp at hdi; exact hdi.symm)
  rw [hdd, c90] at he
  have hcs := bools_of_struct Tryd.underlying90 (fun j f hj => by
    match j, hj with
    | 0, hj => simp at hj; subst hj; exact ⟨Tryd.underlying4, rfl, c4⟩
    | 1, hj => simp at hj; subst hj; exact ⟨Tryd.underlying4, rfl, c4⟩
    | j + 2, hj => simp at hj) (by rw [c90]; rfl) he
  have e0 := congrArg (·[0]?) hcs
  have e1 := congrArg (·[1]?) hcs
  simp only [List.getElem?_take, List.getElem?_drop] at e0 e1
  constructor
  · rw [World.var?_cell n0 hvar (2 * i), ← Array.getElem?_toList]
    simpa [Nat.mul_comm] using e0
  · rw [World.var?_cell n0 hvar (2 * i + 1), ← Array.getElem?_toList]
    simpa [Nat.mul_comm] using e1
theorem accept_eq : (Rows.laid_unicode_utf8_acceptRanges : DataW Unit) = Lib.acceptData := by kernel_rfl
theorem first_eq : Rows.laid_unicode_utf8_first = Lib.firstData := by kernel_rfl
theorem glob_of_reads {W : World} (h1 : Lib.VarReads Tryd.prog W "unicode/utf8.first" Rows.laid_unicode_utf8_first) (h2 : Lib.VarReads Tryd.prog W "unicode/utf8.acceptRanges" Rows.laid_unicode_utf8_acceptRanges)
    (h3 : Lib.VarReads Tryd.prog W "epitome/span.kinds" Rows.laid_epitome_span_kinds) : Glob W := by
  rw [first_eq] at h1
  rw [accept_eq] at h2
  have k1 := kinds_of_reads h3 1 (by decide)
  have k2 := kinds_of_reads h3 2 (by decide)
  have k3 := kinds_of_reads h3 3 (by decide)
  exact ⟨k1.1, k1.2, k2.1, k2.2, k3.1, k3.2, utf8Tabs_of_readsT (Go.Proofs.U8Types.of196 Tryd.laysValid) ⟨by kernel_rfl, by kernel_rfl, by kernel_rfl, by kernel_rfl, by kernel_rfl, by kernel_rfl, by kernel_rfl⟩ h1 h2⟩
noncomputable def laidWorld (os : Os) : World :=
  let w0 := World.holding Tryd.prog os ⟨#[], #[], []⟩
  let put (h : Array Obj) (g : Nat) (cs : Array Value) : Array Obj := h.modify g fun
    | .cells _ t frozen => .cells cs t frozen
    | o => o
  let h1 := put w0.heap 0 #[.bool false, .bool false, .bool true, .bool true, .bool false, .bool false, .bool true, .bool false]
  let h2 := put h1 1 (Lib.firstTab.map fun z => Value.int .u8 z).toArray
  let h3 := put h2 2 ((List.range 16).flatMap fun i => [Value.int .u8 (Lib.accLo i), Value.int .u8 (Lib.accHi i)]).toArray
  { w0 with heap := h3 }
end Go.Proofs.YtkgicpnnlkcaeaaDoor.F
end
