import Derived.Test.YtkefbljogjcodaaDoorKCGapsJoinC
import Derived.Below
import Derived.Deep.Draws
import Derived.Deep.AppendLies
import Derived.Maps.AppendAt
import Derived.OwnWalk
import Derived.Laws.BytesArg
import Derived.Laws.MakeOwn
import Derived.Laws.OwnMore
import Derived.Deep.OwnRows
import Derived.Tactics
import Derived.Lib.ConvBytes
import Derived.Laws.Slices
import Derived.WalkKit
import Derived.KernelRfl
import Derived.RowKit3
import Derived.Deep.LoopGhost
import Derived.Deep.QuietTactic
import Derived.BigQuiet
import Derived.WideLaws
import Derived.Deep.DeepCutAuto
import Derived.Deep.CutBlock
import Derived.Deep.RegionHeld3
import Derived.Laws.Rows
import Derived.Lib.AppendStr
import Derived.ArgAppend
import Derived.Laws.IdiomCopy
import Derived.RowKit
import Derived.OrdersHeld
import Derived.Laws.BitsLemmas
import Derived.Laws.StructEq
import Derived.Test.YtkefbljogjcodaaDoorProg
import Derived.Handy
import Derived.Shelf.Unicode.DecodeSlow
import Derived.Ground.NamesProg
import Derived.Shelf.Unicode.ValidAny
import Derived.Laws.RangeString
import Derived.Laws.RangeAny
import Derived.Lib.RuneCount
import Derived.Laws.IdiomStrings
import Derived.Laws.Cover4
import Derived.ProofKit
import Derived.OpenShut
import Derived.ShutString
import Derived.ChangeOld
import Derived.SizedLaws
import Derived.Lib.ValidLaws
import Derived.Test.YtkefbljogjcodaaDoorRows
import Derived.Lib.LaidU8T
import Derived.Lib.LaidIn
import Derived.LaidLaws
section
namespace Go.Proofs.YtkefbljogjcodaaDoor.F
open Go.RowKit Go.Proofs.YtkefbljogjcodaaDoorW.PrintWords Go.Proofs.YtkefbljogjcodaaDoorW.PrintLast Go.Proofs.YtkefbljogjcodaaDoorW.PrintMore
set_option linter.unusedVariables false
set_option linter.unusedSimpArgs false
def Opens {α : Type} (P : Program) (t : TypeId) (d : Kd α) (V : α → Prop) : Prop :=
  ∀ {H : Type} (enc : TypeId × Value → H) (w : World) (base : Nat) (spare : Nat → Bool) (held : Bool) (fuel : Nat) (cs : List Value) (x : DataW H × List MemPlace),
    DataW.trod enc P w base spare held fuel t cs = some x → ∃ a : α, d.K w a cs ∧ V a
theorem opens_int {P : Program} {t : TypeId} {k : IntKind} (ht : P.underlying t = some (.int k)) : Opens P t (Kd.int k) (fun n => (Lit.int k n).wf = true) := by
  intro H enc w base spare held fuel cs x h
  obtain ⟨n, hc, _, hw⟩ := DataW.trod_int ht h
  exact ⟨n, hc, hw⟩
theorem opens_string {P : Program} {t : TypeId} (ht : P.underlying t = some .string) : Opens P t Kd.string (fun s => s.size ≤ maxLen) := by
  intro H enc w base spare held fuel cs x h
  obtain ⟨s, hc, _, hs⟩ := DataW.trod_string ht h
  exact ⟨s, hc, hs⟩
theorem list_of_each {α : Type} (R : Nat → α → Prop) : ∀ n : Nat, (∀ i, i < n → ∃ x, R i x) → ∃ l : List α, l.length = n ∧ ∀ i x, l[i]? = some x → R i x
  | 0, _ => ⟨[], rfl, fun i x h => by simp at h⟩
  | n + 1, h => by
    obtain ⟨l, hl, hr⟩ := list_of_each R n (fun i hi => h i (by omega))
    obtain ⟨x, hx⟩ := h n (by omega)
    refine ⟨l ++ [x], by simp [hl], fun i y hy => ?_⟩
    rw [List.getElem?_append] at hy
    split at hy
    · exact hr i y hy
    · next hge =>
      have : i = n := by
        have := (List.getElem?_eq_some_iff.1 hy).1
        simp at this
        omega
      subst this
      simp [hl] at hy
      exact hy ▸ hx
theorem cells_each {w : World} {base : Nat} {a : Addr} {n : Nat} {cs : List Value} (h : w.cells? base a n = some cs) : cs.length = n ∧ ∀ i u, cs[i]? = some u → w.cell? (a.add i) = some u := by
  unfold World.cells? at h
  split at h
  · have hl : cs.length = n := by
      have := mapM_some_length h
      simpa using this
    exact ⟨hl, fun i u hu => by
      have hi : i < n := by have := (List.getElem?_eq_some_iff.1 hu).1; omega
      rw [mapM_some_get h i i (by simp [hi])]
      exact hu⟩
  · cases h
theorem add_add (a : Addr) (i j : Nat) : (a.add i).add j = a.add (i + j) := by
  by_cases hi : i = 0
  · subst hi; simp [Addr.add]
  · by_cases hj : j = 0
    · subst hj; simp [Addr.add]
    · simp [Addr.add, hi, hj, Nat.add_assoc]
theorem opens_slice {α : Type} {P : Program} {t e : TypeId} {d : Kd α} {V : α → Prop} (ht : P.underlying t = some (.slice e)) (hc : P.cellsOf e = d.sz) (h : Opens P e d V) :
    Opens P t (Kd.slice e d) (fun l => l.length ≤ maxLen ∧ ∀ x ∈ l, V x) := by
  intro H enc w base spare held fuel cs x hx
  rcases DataW.trod_slice ht hx with ⟨rfl, rfl⟩ | ⟨a, len, cap, elems, rest, n, _, rfl, rfl, hb, hl, hm, hlen, hel, _, _⟩
  · exact ⟨[], ⟨none, 0, rfl, Nat.le_refl _, Kd.C_nil _ _⟩, by simp, by simp⟩
  · have each : ∀ i, i < len → ∃ p : α, (∃ c, c.length = d.sz ∧ d.K w p c ∧ ∀ j u, c[j]? = some u → w.cell? (a.add (i * d.sz + j)) = some u) ∧ V p := by
      intro i hi
      have hi' := hel i hi
      have hs : elems[i]? = some (elems[i]'(by omega)) := List.getElem?_eq_getElem (by omega)
      rw [hs, Option.bind_eq_some_iff] at hi'
      obtain ⟨c, hcs, hy⟩ := hi'
      obtain ⟨p, hp, hv⟩ := h enc w base spare held n c _ hy
      obtain ⟨hcl, hce⟩ := cells_each hcs
      refine ⟨p, ⟨c, hcl.trans hc, hp, fun j u hu => ?_⟩, hv⟩
      have := hce j u hu
      rw [add_add, hc] at this
      exact this
    obtain ⟨l, hll, hlr⟩ := list_of_each _ len each
    have hm' : len ≤ 9223372036854775807 := by unfold maxLen at hm; omega
    refine ⟨l, ⟨some a, cap, by rw [hll], by omega, rfl, by omega, fun _ => ⟨a, rfl, fun j p hj => (hlr j p hj).1⟩⟩, by unfold maxLen at hm ⊢; omega, fun x hx => ?_⟩
    obtain ⟨j, hj⟩ := List.getElem?_of_mem hx
    exact (hlr j x hj).2
theorem agg_array {P : Program} {w : World} {r : Reach} {base : Nat} {t n e : TypeId} {v : Value} (ht : P.underlying t = some (.array n e)) (h : Value.okWide P w r base t v) : ∃ cs, v = .agg cs := by
  simp only [Value.okWide, ht] at h
  obtain ⟨cs, rfl, _⟩ := h
  exact ⟨cs, rfl⟩
theorem arr_of {cs : Array Value} {l : List Value} (h : cs.toList = l) : cs = l.toArray := by
  subst h; simp
end Go.Proofs.YtkefbljogjcodaaDoor.F
end
section
namespace Go.Proofs.YtkefbljogjcodaaDoor.F
open Go.RowKit Go.Proofs.YtkefbljogjcodaaDoorW.PrintWords Go.Proofs.YtkefbljogjcodaaDoorW.PrintLast Go.Proofs.YtkefbljogjcodaaDoorW.PrintMore
attribute [local go_sem] max2_int min2_int max_two min_two max_three min_three max_four min_four cell_setCell_isSome
set_option linter.unusedVariables false
set_option linter.unusedSimpArgs false
def V22 (x : S22) : Prop := ((Lit.int .u8 x.f0).wf = true) ∧ ((Lit.int .u8 x.f1).wf = true)
set_option maxRecDepth 10000 in
theorem opens22 : Opens Tryd.prog 22 k22 V22 := by
  intro H enc w base spare held fuel cs x h
  obtain ⟨xs, n, rfl, rfl, hlen, hxs, hf⟩ := DataW.trod_array Tryd.underlying22 h
  have hl : cs.length = 2 := hlen.trans (by kernel_rfl)
  have hx : xs.length = 2 := hxs
  have h0 := hf 0 (by decide)
  rw [List.getElem?_eq_getElem (show 0 < xs.length by omega)] at h0
  obtain ⟨v0, k0, p0⟩ := (opens_int Tryd.underlying5) enc w base spare held n _ _ h0
  have h1 := hf 1 (by decide)
  rw [List.getElem?_eq_getElem (show 1 < xs.length by omega)] at h1
  obtain ⟨v1, k1, p1⟩ := (opens_int Tryd.underlying5) enc w base spare held n _ _ h1
  refine ⟨⟨v0, v1⟩, ?_, ⟨p0, p1⟩⟩
  have e2 : cs = (cs.drop 0).take 1 ++ ((cs.drop 1).take 1) := by
    match cs, hl with
    | [c0, c1], _ => rfl
  rw [e2]
  exact ⟨_, _, rfl, (show ((Kd.int .u8)).K w _ ((cs.drop 0).take 1) from k0), (show ((Kd.int .u8)).K w _ ((cs.drop 1).take 1) from k1)⟩
def V26 (x : S26) : Prop := ((Lit.int .i64 x.f0).wf = true) ∧ ((Lit.int .i64 x.f1).wf = true) ∧ (x.f2.size ≤ maxLen)
set_option maxRecDepth 10000 in
theorem opens26 : Opens Tryd.prog 26 k26 V26 := by
  intro H enc w base spare held fuel cs x h
  obtain ⟨xs, n, rfl, rfl, hlen, hxs, hf⟩ := DataW.trod_struct Tryd.underlying26 h
  have hl : cs.length = 3 := hlen.trans (by kernel_rfl)
  have hx : xs.length = 3 := hxs
  have h0 := hf 0 _ rfl
  rw [List.getElem?_eq_getElem (show 0 < xs.length by omega)] at h0
  obtain ⟨v0, k0, p0⟩ := (opens_int Tryd.underlying3) enc w base spare held n _ _ h0
  have h1 := hf 1 _ rfl
  rw [List.getElem?_eq_getElem (show 1 < xs.length by omega)] at h1
  obtain ⟨v1, k1, p1⟩ := (opens_int Tryd.underlying3) enc w base spare held n _ _ h1
  have h2 := hf 2 _ rfl
  rw [List.getElem?_eq_getElem (show 2 < xs.length by omega)] at h2
  obtain ⟨v2, k2, p2⟩ := (opens_string Tryd.underlying9) enc w base spare held n _ _ h2
  refine ⟨⟨v0, v1, v2⟩, ?_, ⟨p0, p1, p2⟩⟩
  have e2 : cs = (cs.drop 0).take 1 ++ ((cs.drop 1).take 1 ++ ((cs.drop 2).take 1)) := by
    match cs, hl with
    | [c0, c1, c2], _ => rfl
  rw [e2]
  exact ⟨_, _, rfl, (show ((Kd.int .i64)).K w _ ((cs.drop 0).take 1) from k0), ⟨_, _, rfl, (show ((Kd.int .i64)).K w _ ((cs.drop 1).take 1) from k1), (show (Kd.string).K w _ ((cs.drop 2).take 1) from k2)⟩⟩
end Go.Proofs.YtkefbljogjcodaaDoor.F
end
section
namespace Go.Proofs.YtkefbljogjcodaaDoor.F
open Go.RowKit Go.Proofs.YtkefbljogjcodaaDoorW.PrintWords Go.Proofs.YtkefbljogjcodaaDoorW.PrintLast Go.Proofs.YtkefbljogjcodaaDoorW.PrintMore
set_option linter.unusedVariables false
set_option linter.unusedSimpArgs false
theorem ev_if_pos {α : Type} {c : Prop} [Decidable c] {g f : Nat → Option α} {r : α} (hc : c) (h : Ev g r) : Ev (fun k => if c then g k else f k) r := by
 simp only [if_pos hc]; exact h
theorem ev_if_neg {α : Type} {c : Prop} [Decidable c] {g f : Nat → Option α} {r : α} (hc : ¬ c) (h : Ev f r) : Ev (fun k => if c then g k else f k) r := by
 simp only [if_neg hc]; exact h
theorem ev_some {α β : Type} {g : Option α} {a : α} {f : Nat → α → Option β} {r : β} (hg : g = some a) (h : Ev (fun n => f n a) r) : Ev (fun n => g.bind (f n)) r := by
 subst hg; exact h
theorem w64 {x : Int} (h : -9223372036854775808 ≤ x) (h2 : x ≤ 9223372036854775807) : wrap64 x = x := by unfold wrap64; omega
theorem wf_bounds {x : Int} (h : (Lit.int .i64 x).wf = true) : -9223372036854775808 ≤ x ∧ x ≤ 9223372036854775807 := by
 simp [Lit.wf, IntKind.min, IntKind.max, IntKind.bits, IntKind.signed] at h
 omega
theorem wf_u8 {x : Int} (h : (Lit.int .u8 x).wf = true) : 0 ≤ x ∧ x ≤ 255 := by
 simp [Lit.wf, IntKind.min, IntKind.max, IntKind.bits, IntKind.signed] at h
 omega
end Go.Proofs.YtkefbljogjcodaaDoor.F
end
section
namespace Go.Proofs.YtkefbljogjcodaaDoor.F
open Go.RowKit Go.Proofs.YtkefbljogjcodaaDoorW.PrintWords Go.Proofs.YtkefbljogjcodaaDoorW.PrintLast Go.Proofs.YtkefbljogjcodaaDoorW.PrintMore
set_option linter.unusedVariables false
set_option linter.unusedSimpArgs false
abbrev Sp := S26
deriving instance DecidableEq for S26
instance : DecidableEq Sp := inferInstanceAs (DecidableEq S26)
theorem rdS_at {pre r : List Sp} {c : Sp} {i : Int} (h : i = pre.length) : rd_T26 (pre ++ c :: r) i = c := by
 subst h
 unfold rd_T26
 simp [List.getD_eq_getElem?_getD]
end Go.Proofs.YtkefbljogjcodaaDoor.F
end
section
namespace Go.Proofs.YtkefbljogjcodaaDoor.F
open Go.RowKit Go.Proofs.YtkefbljogjcodaaDoorW.PrintWords Go.Proofs.YtkefbljogjcodaaDoorW.PrintLast Go.Proofs.YtkefbljogjcodaaDoorW.PrintMore
set_option linter.unusedVariables false
set_option linter.unusedSimpArgs false
def isRune (r : Int) : Prop := (0 ≤ r ∧ r < 55296) ∨ (57344 ≤ r ∧ r ≤ 1114111)
def enc1 (r : Int) : List Int :=
 if r < 128 then [r] else if r < 2048 then [192 + r / 64, 128 + r % 64]
 else if r < 65536 then [224 + r / 4096, 128 + r / 64 % 64, 128 + r % 64]
 else [240 + r / 262144, 128 + r / 4096 % 64, 128 + r / 64 % 64, 128 + r % 64]
def encB (l : List Int) : List Int := l.flatMap enc1
def encT (l : List Int) : ByteArray := strOfNums (encB l)
theorem enc1_length (r : Int) : 1 ≤ (enc1 r).length ∧ (enc1 r).length ≤ 4 := by
 unfold enc1
 split
 ·simp
 ·split
  ·simp
  ·split <;> simp
theorem encB_cons (r : Int) (l : List Int) : encB (r :: l) = enc1 r ++ encB l := by simp [encB]
theorem encB_append (a b : List Int) : encB (a ++ b) = encB a ++ encB b := by simp [encB]
theorem encB_length (l : List Int) : l.length ≤ (encB l).length ∧ (encB l).length ≤ 4 * l.length := by
 induction l with
 | nil => simp [encB]
 | cons r l ih =>
  have := enc1_length r
  rw [encB_cons]
  simp
  omega
theorem strOfNums_append (a b : List Int) : strOfNums (a ++ b) = strOfNums a ++ strOfNums b := by
 apply ByteArray.ext
 rw [ByteArray.data_append]
 simp [strOfNums]
theorem encT_append (a b : List Int) : encT (a ++ b) = encT a ++ encT b := by unfold encT; rw [encB_append, strOfNums_append]
theorem encT_nil : encT [] = ⟨#[]⟩ := rfl
theorem encT_size (l : List Int) : l.length ≤ (encT l).size ∧ (encT l).size ≤ 4 * l.length := by
 unfold encT
 rw [strOfNums_size]
 exact encB_length l
theorem size_is (r : Int) (h : isRune r) : Ev (fun k => epitomeref01_size.f k r) ((enc1 r).length : Int) := by
 have hj : Ev (fun k => epitomeref01_size.j0 k r false) ((enc1 r).length : Int) := by
  refine Ev.step (f := fun _ => some ((enc1 r).length : Int)) (fun k => ?_) (Ev.now _)
  rw [epitomeref01_size.j0, if_neg (by simp)]
  unfold enc1
  split
  ·rfl
  ·split
   ·rfl
   ·split <;> rfl
 unfold epitomeref01_size.f
 unfold isRune at h
 refine ev_if_neg (by omega) (ev_if_neg (by omega) ?_)
 by_cases h1 : r ≥ 55296
 ·refine ev_if_pos h1 ?_
  rw [show decide (r ≤ 57343) = false by simp; omega]
  exact hj
 ·exact ev_if_neg h1 hj
theorem refOf_loop (l : List Int) (hl : l.length ≤ 4398046511104) (hr : ∀ r ∈ l, isRune r) : ∀ (r pre acc : List Int), l = pre ++ r → acc.length ≤ 4 * pre.length →
  Ev (fun k => epitomeref01_Of.l0 k l acc (pre.length : Int)) (strOfNums (acc ++ encB r))
 | [], pre, acc, h, ha => by
  refine Ev.step (f := fun _ => some (strOfNums acc)) (fun k => ?_) (by simpa [encB] using Ev.now (strOfNums acc))
  rw [epitomeref01_Of.l0, if_neg (by subst h; simp)]
 | t :: r, pre, acc, h, ha => by
  have hlt : (pre.length : Int) < (l.length : Int) := by subst h; simp <;> omega
  have ht : isRune t := hr t (by rw [h]; simp)
  have hrd : rd l (pre.length : Int) = t := by subst h; unfold rd; simp [List.getD_eq_getElem?_getD]
  have hpl : pre.length < 4398046511104 := by omega
  have ht' := ht
  unfold isRune at ht'
  have w0 : wrap64 t = t := w64 (by omega) (by omega)
  have hz := size_is t ht
  have e64 : Int.tdiv t 64 = t / 64 := Int.tdiv_eq_ediv_of_nonneg (by omega)
  have e4096 : Int.tdiv t 4096 = t / 4096 := Int.tdiv_eq_ediv_of_nonneg (by omega)
  have e262144 : Int.tdiv t 262144 = t / 262144 := Int.tdiv_eq_ediv_of_nonneg (by omega)
  have m64 : Int.tmod t 64 = t % 64 := Int.tmod_eq_emod_of_nonneg (by omega)
  have w1 : wrap64 ((pre.length : Int) + 1) = ((pre ++ [t]).length : Int) := by rw [w64 (by omega) (by omega)]; simp
  have next : ∀ ys : List Int, ys = enc1 t → Ev (fun k => epitomeref01_Of.l0 k l (acc ++ ys) (wrap64 ((pre.length : Int) + 1))) (strOfNums (acc ++ encB (t :: r))) := by
   intro ys hy
   have := refOf_loop l hl hr r (pre ++ [t]) (acc ++ ys) (by simp [h]) (by have := enc1_length t; rw [hy]; simp <;> omega)
   rw [w1, encB_cons, ← List.append_assoc, ← hy]
   exact this
  refine Ev.step (f := fun k => _) (fun k => by rw [epitomeref01_Of.l0, if_pos hlt, if_pos (by omega), hrd, w0]) ?_
  refine Ev.bind hz ?_
  by_cases c1 : t < 128
  ·have hy : enc1 t = [t] := by unfold enc1; rw [if_pos c1]
   refine ev_if_pos (by rw [hy]; rfl) (ev_if_pos (by omega) ?_)
   exact next _ (by rw [hy, show t % 256 = t by omega])
  ·by_cases c2 : t < 2048
   ·have hy : enc1 t = [192 + t / 64, 128 + t % 64] := by unfold enc1; rw [if_neg c1, if_pos c2]
    refine ev_if_neg (by rw [hy]; simp) (ev_if_pos (by rw [hy]; rfl) (ev_some rfl (ev_if_pos (by simp; omega) ?_)))
    refine next _ ?_
    rw [hy, e64, m64]
    congr 1
    ·unfold wrap64; omega
    ·congr 1; unfold wrap64; omega
   ·by_cases c3 : t < 65536
    ·have hy : enc1 t = [224 + t / 4096, 128 + t / 64 % 64, 128 + t % 64] := by unfold enc1; rw [if_neg c1, if_neg c2, if_pos c3]
     refine ev_if_neg (by rw [hy]; simp) (ev_if_neg (by rw [hy]; simp) (ev_if_pos (by rw [hy]; rfl) (ev_some rfl (ev_if_pos (by simp; omega) ?_))))
     refine next _ ?_
     have m2 : Int.tmod (wrap64 (t / 64)) 64 = t / 64 % 64 := by rw [w64 (by omega) (by omega)]; exact Int.tmod_eq_emod_of_nonneg (by omega)
     rw [hy, e4096, e64, m64, m2]
     congr 1
     ·unfold wrap64; omega
     ·congr 1
      ·unfold wrap64; omega
      ·congr 1; unfold wrap64; omega
    ·have hy : enc1 t = [240 + t / 262144, 128 + t / 4096 % 64, 128 + t / 64 % 64, 128 + t % 64] := by unfold enc1; rw [if_neg c1, if_neg c2, if_neg c3]
     refine ev_if_neg (by rw [hy]; simp) (ev_if_neg (by rw [hy]; simp) (ev_if_neg (by rw [hy]; simp) (ev_if_pos (by rw [hy]; rfl) (ev_some rfl (ev_if_pos (by simp; omega) ?_)))))
     refine next _ ?_
     have m2 : Int.tmod (wrap64 (t / 64)) 64 = t / 64 % 64 := by rw [w64 (by omega) (by omega)]; exact Int.tmod_eq_emod_of_nonneg (by omega)
     have m3 : Int.tmod (wrap64 (t / 4096)) 64 = t / 4096 % 64 := by rw [w64 (by omega) (by omega)]; exact Int.tmod_eq_emod_of_nonneg (by omega)
     rw [hy, e262144, e4096, e64, m64, m2, m3]
     congr 1
     ·unfold wrap64; omega
     ·congr 1
      ·unfold wrap64; omega
      ·congr 1
       ·unfold wrap64; omega
       ·congr 1; unfold wrap64; omega
theorem refOf_is (l : List Int) (hl : l.length ≤ 4398046511104) (hr : ∀ r ∈ l, isRune r) : Ev (fun k => epitomeref01_Of.f k l) (encT l) := by
 unfold epitomeref01_Of.f
 exact refOf_loop l hl hr l [] [] rfl (by simp)
def alpha : List Int := [97, 98, 99, 120, 121, 233, 8364, 128512]
def fitRunes (s : ByteArray) : List Int := s.data.toList.map (fun b => alpha.getD (b.toNat % 8) 0)
theorem fitRunes_mem (s : ByteArray) : ∀ r ∈ fitRunes s, r ∈ alpha := by
 intro r hr
 unfold fitRunes at hr
 obtain ⟨b, _, rfl⟩ := List.mem_map.1 hr
 have hb : b.toNat % 8 < alpha.length := Nat.mod_lt _ (by decide)
 rw [List.getD_eq_getElem?_getD, List.getElem?_eq_getElem hb]
 exact List.getElem_mem hb
theorem alpha_rune : ∀ r ∈ alpha, isRune r := by
 intro r hr
 unfold isRune
 simp [alpha] at hr
 omega
theorem fitRunes_length (s : ByteArray) : (fitRunes s).length = s.size := by unfold fitRunes; rw [List.length_map, data_length]
theorem fit01_loop (s : ByteArray) (hs : s.size ≤ 1099511627776) : ∀ (r pre : List UInt8), s.data.toList = pre ++ r →
  Ev (fun k => epitomeref01_Fit.l0 k s (pre.map (fun b => alpha.getD (b.toNat % 8) 0)) (pre.length : Int) 97 98 99 120 121 233 8364 128512) (encT (fitRunes s))
 | [], pre, h => by
  have hz : pre.length = s.size := by rw [← data_length, h]; simp
  refine Ev.step (f := fun k => (epitomeref01_Of.f k (fitRunes s)).bind fun t => some t) (fun k => ?_) ?_
  ·rw [epitomeref01_Fit.l0, if_neg (by omega)]
   unfold fitRunes
   rw [h, List.append_nil]
  ·exact Ev.bind (refOf_is _ (by rw [fitRunes_length]; omega) (fun r hr => alpha_rune r (fitRunes_mem s r hr))) (Ev.now _)
 | b :: r, pre, h => by
  have hz : pre.length + (r.length + 1) = s.size := by rw [← data_length, h, List.length_append, List.length_cons]
  have hbt : bt s (pre.length : Int) = b.toNat := by
   rw [← rd_bytesOf]
   unfold rd bytesOf
   rw [h]
   simp [List.getD_eq_getElem?_getD]
  refine Ev.step (f := fun k => epitomeref01_Fit.l0 k s ((pre ++ [b]).map (fun b => alpha.getD (b.toNat % 8) 0)) ((pre ++ [b]).length : Int) 97 98 99 120 121 233 8364 128512) (fun k => ?_) (fit01_loop s hs r (pre ++ [b]) (by simp [h]))
  rw [epitomeref01_Fit.l0, if_pos (by omega), if_pos (by omega), hbt]
  have hf : fit_rune.f 97 98 99 120 121 233 8364 128512 (Int.tmod (b.toNat : Int) 8) = some (alpha.getD (b.toNat % 8) 0) := by
   unfold fit_rune.f
   rw [show (Int.tmod (b.toNat : Int) 8).toNat = b.toNat % 8 by rw [Int.tmod_eq_emod_of_nonneg (by omega)]; omega]
   have hb : b.toNat % 8 < alpha.length := Nat.mod_lt _ (by decide)
   rw [List.getD_eq_getElem?_getD, List.getElem?_eq_getElem hb]
   exact List.getElem?_eq_getElem hb
  rw [hf, Option.bind_some, if_pos (by simp; omega), w64 (by omega) (by omega)]
  simp
theorem fit01_is (s : ByteArray) (hs : s.size ≤ 1099511627776) : Ev (fun k => epitomeref01_Fit.f k s) (encT (fitRunes s)) := by
 unfold epitomeref01_Fit.f
 exact fit01_loop s hs s.data.toList [] rfl
end Go.Proofs.YtkefbljogjcodaaDoor.F
end
section
namespace Go.Proofs.YtkefbljogjcodaaDoor.F
open Go.RowKit Go.Proofs.YtkefbljogjcodaaDoorW.PrintWords Go.Proofs.YtkefbljogjcodaaDoorW.PrintLast Go.Proofs.YtkefbljogjcodaaDoorW.PrintMore
set_option linter.unusedVariables false
set_option linter.unusedSimpArgs false
inductive Un where
 | keep (n : Nat)
 | put (l : List Int)
 | drop (n : Nat)
def Un.sp : Un → Sp
 | .keep n => ⟨1, n, ⟨#[]⟩⟩
 | .put l => ⟨2, 0, encT l⟩
 | .drop n => ⟨3, n, ⟨#[]⟩⟩
def Un.cin : Un → Nat
 | .keep n => n
 | .put _ => 0
 | .drop n => n
def Un.cout : Un → Nat
 | .keep n => n
 | .put l => l.length
 | .drop _ => 0
def Un.few : Un → Prop
 | .keep n => n ≤ 63
 | .put l => l.length ≤ 6 ∧ ∀ r ∈ l, r ∈ alpha
 | .drop n => n ≤ 63
structure Made (us : List Un) (n : Nat) : Prop where
 few : ∀ u ∈ us, u.few
 len : us.length ≤ 13
 cin : (us.map Un.cin).sum = n
theorem kind_range (x : Int) (h : -9223372036854775808 ≤ x) (h2 : x ≤ 9223372036854775807) :
  let k := wrap64 (1 + Int.tmod (wrap64 (Int.tmod x 3 + 3)) 3); k = 1 ∨ k = 2 ∨ k = 3 := by
 intro k
 have h1 : -3 < Int.tmod x 3 := by have := Int.lt_tmod_of_pos x (show (0 : Int) < 3 by decide); omega
 have h3 : Int.tmod x 3 < 3 := Int.tmod_lt_of_pos x (by decide)
 have e : wrap64 (Int.tmod x 3 + 3) = Int.tmod x 3 + 3 := w64 (by omega) (by omega)
 have e2 : Int.tmod (Int.tmod x 3 + 3) 3 = (Int.tmod x 3 + 3) % 3 := Int.tmod_eq_emod_of_nonneg (by omega)
 have e3 : k = 1 + (Int.tmod x 3 + 3) % 3 := by
  show wrap64 _ = _
  rw [e, e2, w64 (by omega) (by omega)]
 omega
theorem many_range (x : Int) (h : -9223372036854775808 ≤ x) (h2 : x ≤ 9223372036854775807) :
  0 ≤ Int.tmod (wrap64 (Int.tmod x 7 + 7)) 7 ∧ Int.tmod (wrap64 (Int.tmod x 7 + 7)) 7 ≤ 6 := by
 have h1 : -7 < Int.tmod x 7 := by have := Int.lt_tmod_of_pos x (show (0 : Int) < 7 by decide); omega
 have h3 : Int.tmod x 7 < 7 := Int.tmod_lt_of_pos x (by decide)
 rw [w64 (by omega) (by omega), Int.tmod_eq_emod_of_nonneg (by omega)]
 omega
theorem mn_le (a b : Int) : mn a b ≤ a ∧ mn a b ≤ b ∧ (mn a b = a ∨ mn a b = b) := by
 unfold mn
 split <;> omega
theorem extract_size (s : ByteArray) (n : Nat) : (s.extract 0 n).size ≤ n := by
 rw [ByteArray.size_extract]
 omega
theorem fit04_end (l : List Sp) (m : Nat) (acc : List Sp) (i : Int) (hacc : acc.length ≤ 12) :
  Ev (fun k => epitomeref04_Fit.j1 k l (m : Int) acc i false) (acc ++ (if m = 0 then ([] : List Un) else [Un.keep m]).map Un.sp) := by
 by_cases h : m = 0
 ·subst h
  refine Ev.step (f := fun _ => some acc) (fun k => ?_) (by simpa using Ev.now acc)
  rw [epitomeref04_Fit.j1, if_neg (by simp), if_neg (by simp)]
 ·refine Ev.step (f := fun _ => some (acc ++ [⟨1, (m : Int), ⟨#[]⟩⟩])) (fun k => ?_) (by rw [if_neg h]; exact Ev.now _)
  rw [epitomeref04_Fit.j1, if_neg (by simp), if_pos (by omega), if_pos (by omega)]
theorem fit04_loop (l : List Sp) (hl : l.length ≤ maxLen) (hw : ∀ x ∈ l, (Lit.int .i64 x.f0).wf = true ∧ (Lit.int .i64 x.f1).wf = true ∧ x.f2.size ≤ maxLen) :
  ∀ (r pre : List Sp) (m : Nat) (acc : List Sp), l = pre ++ r → acc.length = pre.length → pre.length ≤ 12 → m ≤ 63 →
   ∃ us : List Un, Ev (fun k => epitomeref04_Fit.l0 k l (m : Int) acc (pre.length : Int)) (acc ++ us.map Un.sp) ∧ (∀ u ∈ us, u.few) ∧ us.length + pre.length ≤ 13 ∧ (us.map Un.cin).sum = m
 | [], pre, m, acc, h, ha, hp, hm => by
  refine ⟨if m = 0 then [] else [Un.keep m], ?_, ?_, ?_, ?_⟩
  ·refine Ev.step (f := fun k => epitomeref04_Fit.j1 k l (m : Int) acc (pre.length : Int) false) (fun k => ?_) (fit04_end l m acc _ (by omega))
   rw [epitomeref04_Fit.l0, if_neg (by subst h; simp)]
  ·intro u hu
   by_cases h0 : m = 0
   ·rw [if_pos h0] at hu; simp at hu
   ·rw [if_neg h0] at hu; simp at hu; subst hu; exact hm
  ·split <;> simp <;> omega
  ·split <;> simp [Un.cin] <;> omega
 | x :: r, pre, m, acc, h, ha, hp, hm => by
  have hlt : (pre.length : Int) < (l.length : Int) := by subst h; simp <;> omega
  by_cases h12 : pre.length = 12
  ·refine ⟨if m = 0 then [] else [Un.keep m], ?_, ?_, ?_, ?_⟩
   ·refine Ev.step (f := fun k => epitomeref04_Fit.j1 k l (m : Int) acc (pre.length : Int) false) (fun k => ?_) (fit04_end l m acc _ (by omega))
    rw [epitomeref04_Fit.l0, if_pos hlt, show decide ((pre.length : Int) < 12) = false by simp; omega]
   ·intro u hu
    by_cases h0 : m = 0
    ·rw [if_pos h0] at hu; simp at hu
    ·rw [if_neg h0] at hu; simp at hu; subst hu; exact hm
   ·split <;> simp <;> omega
   ·split <;> simp [Un.cin] <;> omega
  ·have hx := hw x (by rw [h]; simp)
   have b0 := wf_bounds hx.1
   have b1 := wf_bounds hx.2.1
   have hrd : rd_T26 l (pre.length : Int) = x := by rw [h]; exact rdS_at rfl
   have hk := kind_range x.f0 b0.1 b0.2
   have hn := many_range x.f1 b1.1 b1.2
   have w1 : wrap64 ((pre.length : Int) + 1) = ((pre ++ [x]).length : Int) := by rw [w64 (by omega) (by omega)]; simp
   generalize hkk : wrap64 (1 + Int.tmod (wrap64 (Int.tmod x.f0 3 + 3)) 3) = kk at hk
   generalize hnn : Int.tmod (wrap64 (Int.tmod x.f1 7 + 7)) 7 = nn at hn
   have two : ∀ (m2 : Nat) (u : Un), m2 ≤ 63 → u.few → u.cin + m2 = m →
     ∃ us : List Un, Ev (fun k => epitomeref04_Fit.l0 k l (m2 : Int) (acc ++ [u.sp]) (wrap64 ((pre.length : Int) + 1))) (acc ++ us.map Un.sp) ∧ (∀ u ∈ us, u.few) ∧ us.length + pre.length ≤ 13 ∧ (us.map Un.cin).sum = m := by
    intro m2 u hm2 hu hc
    obtain ⟨us, e1, e2, e3, e4⟩ := fit04_loop l hl hw r (pre ++ [x]) m2 (acc ++ [u.sp]) (by simp [h]) (by simp [ha]) (by simp; omega) hm2
    refine ⟨u :: us, ?_, ?_, ?_, ?_⟩
    ·rw [w1]
     simpa using e1
    ·intro v hv
     rcases List.mem_cons.1 hv with rfl | hv
     ·exact hu
     ·exact e2 v hv
    ·simp at e3 ⊢; omega
    ·simp; omega
   have go : ∀ {g : Nat → Option (List Sp)} (w : List Sp), Ev g w → (∀ k, epitomeref04_Fit.j1 (k + 1) l (m : Int) acc (pre.length : Int) true = g k) → Ev (fun k => epitomeref04_Fit.l0 k l (m : Int) acc (pre.length : Int)) w := by
    intro g w hg hj
    refine Ev.step (f := fun k => epitomeref04_Fit.j1 k l (m : Int) acc (pre.length : Int) true) (fun k => ?_) (Ev.step hj hg)
    rw [epitomeref04_Fit.l0, if_pos hlt, show decide ((pre.length : Int) < 12) = true by simp; omega]
   by_cases h2 : kk = 2
   ·have hmn := mn_le (x.f2.size : Int) 6
    obtain ⟨us, e1, e2⟩ := two m (Un.put (fitRunes (x.f2.extract 0 (mn (x.f2.size : Int) 6).toNat))) hm ⟨by rw [fitRunes_length]; have := extract_size x.f2 (mn (x.f2.size : Int) 6).toNat; omega, fitRunes_mem _⟩ (by simp [Un.cin])
    refine ⟨us, go _ ?_ (fun k => by rw [epitomeref04_Fit.j1, if_pos rfl, if_pos (by omega), if_pos hlt, hrd, hkk, if_pos h2, if_pos (by omega), if_pos (by omega)]), e2⟩
    refine Ev.bind (fit01_is _ (by have := extract_size x.f2 (mn (x.f2.size : Int) 6).toNat; omega)) (ev_if_pos (by omega) ?_)
    rw [h2]
    exact e1
   ·have hmn := mn_le nn m
    have hmn0 : 0 ≤ mn nn m := by omega
    obtain ⟨v, hv⟩ := Int.eq_ofNat_of_zero_le hmn0
    have hw2 : wrap64 ((m : Int) - mn nn m) = ((m - v : Nat) : Int) := by rw [w64 (by omega) (by omega)]; omega
    obtain ⟨us, e1, e2⟩ := two (m - v) (if kk = 1 then Un.keep v else Un.drop v) (by omega) (by split <;> (show v ≤ 63; omega)) (by split <;> (show v + (m - v) = m; omega))
    refine ⟨us, go _ ?_ (fun k => by rw [epitomeref04_Fit.j1, if_pos rfl, if_pos (by omega), if_pos hlt, hrd, hkk, if_neg h2, if_pos (by omega), hnn, hw2, hv]), e2⟩
    have hsp : (⟨kk, (v : Int), ⟨#[]⟩⟩ : Sp) = (if kk = 1 then Un.keep v else Un.drop v).sp := by
     rcases hk with rfl | rfl | rfl
     ·rfl
     ·exact absurd rfl h2
     ·rfl
    rw [hsp]
    exact e1
theorem fit04_is (l : List Sp) (hl : l.length ≤ maxLen) (hw : ∀ x ∈ l, (Lit.int .i64 x.f0).wf = true ∧ (Lit.int .i64 x.f1).wf = true ∧ x.f2.size ≤ maxLen) (n : Nat) (hn : n ≤ 63) :
  ∃ us, Ev (fun k => epitomeref04_Fit.f k l (n : Int)) (us.map Un.sp) ∧ Made us n := by
 obtain ⟨us, e1, e2, e3, e4⟩ := fit04_loop l hl hw l [] n [] rfl rfl (by simp) hn
 refine ⟨us, ?_, e2, by simpa using e3, e4⟩
 unfold epitomeref04_Fit.f
 simpa using e1
theorem rem64 (x : Int) (h : (Lit.int .u8 x).wf = true) : ∃ n : Nat, n ≤ 63 ∧ wrap64 (Int.tmod x 64) = (n : Int) := by
 have := wf_u8 h
 have h1 : 0 ≤ Int.tmod x 64 := Int.tmod_nonneg _ this.1
 have h2 : Int.tmod x 64 < 64 := Int.tmod_lt_of_pos _ (by decide)
 refine ⟨(Int.tmod x 64).toNat, by omega, ?_⟩
 rw [w64 (by omega) (by omega)]
 omega
end Go.Proofs.YtkefbljogjcodaaDoor.F
end
section
namespace Go.Proofs.YtkefbljogjcodaaDoor.F
open Go.RowKit Go.Proofs.YtkefbljogjcodaaDoorW.PrintWords Go.Proofs.YtkefbljogjcodaaDoorW.PrintLast Go.Proofs.YtkefbljogjcodaaDoorW.PrintMore
set_option linter.unusedVariables false
set_option linter.unusedSimpArgs false
theorem w64_succ (n : Nat) (h : n ≤ 4611686018427387904) : wrap64 ((n : Int) + 1) = ((n + 1 : Nat) : Int) := by
 rw [w64 (by omega) (by omega)]
 omega
end Go.Proofs.YtkefbljogjcodaaDoor.F
end
section
namespace Go.Proofs.YtkefbljogjcodaaDoor.F
open Go.RowKit Go.Proofs.YtkefbljogjcodaaDoorW.PrintWords Go.Proofs.YtkefbljogjcodaaDoorW.PrintLast Go.Proofs.YtkefbljogjcodaaDoorW.PrintMore
set_option linter.unusedVariables false
set_option linter.unusedSimpArgs false
inductive U where
 | k
 | d
 | p (r : Int)
deriving DecidableEq
def Un.ex : Un → List U
 | .keep n => List.replicate n .k
 | .put l => l.map .p
 | .drop n => List.replicate n .d
def exU (us : List Un) : List U := us.flatMap Un.ex
theorem exU_cons (u : Un) (us : List Un) : exU (u :: us) = u.ex ++ exU us := by simp [exU]
def cinU : List U → Nat
 | [] => 0
 | .p _ :: x => cinU x
 | _ :: x => cinU x + 1
def coutU : List U → Nat
 | [] => 0
 | .d :: x => coutU x
 | _ :: x => coutU x + 1
theorem cinU_append : ∀ a b : List U, cinU (a ++ b) = cinU a + cinU b
 | [], b => by simp [cinU]
 | u :: a, b => by cases u <;> simp [cinU, cinU_append a b] <;> omega
theorem coutU_append : ∀ a b : List U, coutU (a ++ b) = coutU a + coutU b
 | [], b => by simp [coutU]
 | u :: a, b => by cases u <;> simp [coutU, coutU_append a b] <;> omega
theorem cinU_un (u : Un) : cinU u.ex = u.cin := by
 cases u with
 | keep n => induction n with
  | zero => rfl
  | succ n ih => simp only [Un.ex, List.replicate_succ, cinU, Un.cin] at *; omega
 | put l => induction l with
  | nil => rfl
  | cons a l ih => simp only [Un.ex, List.map_cons, cinU, Un.cin] at *; omega
 | drop n => induction n with
  | zero => rfl
  | succ n ih => simp only [Un.ex, List.replicate_succ, cinU, Un.cin] at *; omega
theorem coutU_un (u : Un) : coutU u.ex = u.cout := by
 cases u with
 | keep n => induction n with
  | zero => rfl
  | succ n ih => simp only [Un.ex, List.replicate_succ, coutU, Un.cout] at *; omega
 | put l => induction l with
  | nil => rfl
  | cons a l ih => simp only [Un.ex, List.map_cons, coutU, Un.cout, List.length_cons] at *; omega
 | drop n => induction n with
  | zero => rfl
  | succ n ih => simp only [Un.ex, List.replicate_succ, coutU, Un.cout] at *; omega
theorem cinU_ex : ∀ us : List Un, cinU (exU us) = (us.map Un.cin).sum
 | [] => rfl
 | u :: us => by rw [exU_cons, cinU_append, cinU_un, cinU_ex us]; simp
theorem coutU_ex : ∀ us : List Un, coutU (exU us) = (us.map Un.cout).sum
 | [] => rfl
 | u :: us => by rw [exU_cons, coutU_append, coutU_un, coutU_ex us]; simp
end Go.Proofs.YtkefbljogjcodaaDoor.F
end
section
namespace Go.Proofs.YtkefbljogjcodaaDoor.F
open Go.RowKit Go.Proofs.YtkefbljogjcodaaDoorW.PrintWords Go.Proofs.YtkefbljogjcodaaDoorW.PrintLast Go.Proofs.YtkefbljogjcodaaDoorW.PrintMore
set_option linter.unusedVariables false
set_option linter.unusedSimpArgs false
def preq (q : List Int) : List (List Int) → List (List Int)
 | [] => [q]
 | p :: ps => (q ++ p) :: ps
def gpP : List U → List (List Int)
 | [] => [[]]
 | .p r :: x => preq [r] (gpP x)
 | .k :: x => [] :: gpP x
 | .d :: x => [] :: gpP x
def gpG : List U → List Bool
 | [] => []
 | .p _ :: x => gpG x
 | .k :: x => false :: gpG x
 | .d :: x => true :: gpG x
theorem gpP_ne (x : List U) : gpP x ≠ [] := by
 cases x with
 | nil => simp [gpP]
 | cons u x => cases u <;> simp [gpP, preq] <;> (split <;> simp)
theorem preq_nil {ps : List (List Int)} (h : ps ≠ []) : preq [] ps = ps := by
 cases ps with
 | nil => exact absurd rfl h
 | cons p ps => rfl
theorem preq_preq (a b : List Int) (ps : List (List Int)) : preq a (preq b ps) = preq (a ++ b) ps := by cases ps <;> simp [preq]
theorem preq_length {ps : List (List Int)} (q : List Int) (h : ps ≠ []) : (preq q ps).length = ps.length := by
 cases ps with
 | nil => exact absurd rfl h
 | cons p ps => rfl
theorem gpG_length : ∀ x : List U, (gpG x).length = cinU x
 | [] => rfl
 | .p _ :: x => gpG_length x
 | .k :: x => by simp [gpG, cinU, gpG_length x]
 | .d :: x => by simp [gpG, cinU, gpG_length x]
theorem gpP_length : ∀ x : List U, (gpP x).length = cinU x + 1
 | [] => rfl
 | .p _ :: x => by rw [gpP, preq_length _ (gpP_ne x)]; exact gpP_length x
 | .k :: x => by simp [gpP, cinU, gpP_length x]
 | .d :: x => by simp [gpP, cinU, gpP_length x]
theorem gpP_put (p : List Int) (x : List U) : gpP (p.map .p ++ x) = preq p (gpP x) := by
 induction p with
 | nil => exact (preq_nil (gpP_ne x)).symm
 | cons r p ih => rw [List.map_cons, List.cons_append, gpP, ih, preq_preq]; rfl
theorem gpG_put (p : List Int) (x : List U) : gpG (p.map .p ++ x) = gpG x := by
 induction p with
 | nil => rfl
 | cons r p ih => rw [List.map_cons, List.cons_append, gpG, ih]
theorem gpP_keep : ∀ (n : Nat) (x : List U), gpP (List.replicate n .k ++ x) = List.replicate n [] ++ gpP x
 | 0, x => by simp
 | n + 1, x => by rw [List.replicate_succ, List.cons_append, gpP, gpP_keep n x, List.replicate_succ, List.cons_append]
theorem gpP_drop : ∀ (n : Nat) (x : List U), gpP (List.replicate n .d ++ x) = List.replicate n [] ++ gpP x
 | 0, x => by simp
 | n + 1, x => by rw [List.replicate_succ, List.cons_append, gpP, gpP_drop n x, List.replicate_succ, List.cons_append]
theorem gpG_keep : ∀ (n : Nat) (x : List U), gpG (List.replicate n .k ++ x) = List.replicate n false ++ gpG x
 | 0, x => by simp
 | n + 1, x => by rw [List.replicate_succ, List.cons_append, gpG, gpG_keep n x, List.replicate_succ, List.cons_append]
theorem gpG_drop : ∀ (n : Nat) (x : List U), gpG (List.replicate n .d ++ x) = List.replicate n true ++ gpG x
 | 0, x => by simp
 | n + 1, x => by rw [List.replicate_succ, List.cons_append, gpG, gpG_drop n x, List.replicate_succ, List.cons_append]
end Go.Proofs.YtkefbljogjcodaaDoor.F
end
section
namespace Go.Proofs.YtkefbljogjcodaaDoor.F
open Go.RowKit Go.Proofs.YtkefbljogjcodaaDoorW.PrintWords Go.Proofs.YtkefbljogjcodaaDoorW.PrintLast Go.Proofs.YtkefbljogjcodaaDoorW.PrintMore
set_option linter.unusedVariables false
set_option linter.unusedSimpArgs false
def encL (l : List Int) : List UInt8 := (encB l).map (fun n => UInt8.ofNat n.toNat)
theorem encT_list (l : List Int) : (encT l).data.toList = encL l := by unfold encT encL strOfNums; simp
theorem encL_cons (r : Int) (l : List Int) : encL (r :: l) = (enc1 r).map (fun n => UInt8.ofNat n.toNat) ++ encL l := by unfold encL; rw [encB_cons, List.map_append]
theorem u8n (n : Nat) (h : n < 256) : (UInt8.ofNat n).toNat = n := by simp [UInt8.toNat_ofNat']; omega
theorem enc1_nat (m : Nat) : (enc1 (m : Int)).map (fun n => UInt8.ofNat n.toNat) =
  if m < 128 then [UInt8.ofNat m] else if m < 2048 then [UInt8.ofNat (192 + m / 64), UInt8.ofNat (128 + m % 64)]
  else if m < 65536 then [UInt8.ofNat (224 + m / 4096), UInt8.ofNat (128 + m / 64 % 64), UInt8.ofNat (128 + m % 64)]
  else [UInt8.ofNat (240 + m / 262144), UInt8.ofNat (128 + m / 4096 % 64), UInt8.ofNat (128 + m / 64 % 64), UInt8.ofNat (128 + m % 64)] := by
 unfold enc1
 by_cases h1 : m < 128
 ·rw [if_pos h1, if_pos (by omega)]; simp
 ·rw [if_neg h1, if_neg (by omega)]
  by_cases h2 : m < 2048
  ·rw [if_pos h2, if_pos (by omega)]
   simp only [List.map_cons, List.map_nil]
   rw [show (192 + (m : Int) / 64).toNat = 192 + m / 64 by omega, show (128 + (m : Int) % 64).toNat = 128 + m % 64 by omega]
  ·rw [if_neg h2, if_neg (by omega)]
   by_cases h3 : m < 65536
   ·rw [if_pos h3, if_pos (by omega)]
    simp only [List.map_cons, List.map_nil]
    rw [show (224 + (m : Int) / 4096).toNat = 224 + m / 4096 by omega, show (128 + (m : Int) / 64 % 64).toNat = 128 + m / 64 % 64 by omega, show (128 + (m : Int) % 64).toNat = 128 + m % 64 by omega]
   ·rw [if_neg h3, if_neg (by omega)]
    simp only [List.map_cons, List.map_nil]
    rw [show (240 + (m : Int) / 262144).toNat = 240 + m / 262144 by omega, show (128 + (m : Int) / 4096 % 64).toNat = 128 + m / 4096 % 64 by omega, show (128 + (m : Int) / 64 % 64).toNat = 128 + m / 64 % 64 by omega, show (128 + (m : Int) % 64).toNat = 128 + m % 64 by omega]
theorem decode1 (m n : Nat) (b1 b2 b3 : Nat) (h : m < 128) : Lib.decodeN n m b1 b2 b3 = (m, 1) := by unfold Lib.decodeN; rw [if_pos h]
theorem decode2 (m n : Nat) (b2 b3 : Nat) (h : ¬ m < 128) (h2 : m < 2048) (hn : 2 ≤ n) : Lib.decodeN n (192 + m / 64) (128 + m % 64) b2 b3 = (m, 2) := by
 unfold Lib.decodeN
 rw [if_neg (by omega), if_pos ⟨by omega, by omega, by omega⟩, if_pos (by omega)]
 congr 1
 omega
theorem decode3 (m n : Nat) (b3 : Nat) (h2 : ¬ m < 2048) (h3 : m < 65536) (hv : m < 55296 ∨ 57344 ≤ m) (hn : 3 ≤ n) : Lib.decodeN n (224 + m / 4096) (128 + m / 64 % 64) (128 + m % 64) b3 = (m, 3) := by
 unfold Lib.decodeN
 have e : (224 + m / 4096) % 16 * 4096 + (128 + m / 64 % 64) % 64 * 64 + (128 + m % 64) % 64 = m := by omega
 rw [if_neg (by omega), if_neg (by omega), if_pos ⟨by omega, ⟨by omega, by omega⟩, by omega, by omega⟩, e, if_pos (by omega)]
theorem decode4 (m n : Nat) (h3 : ¬ m < 65536) (hv : m ≤ 1114111) (hn : 4 ≤ n) : Lib.decodeN n (240 + m / 262144) (128 + m / 4096 % 64) (128 + m / 64 % 64) (128 + m % 64) = (m, 4) := by
 unfold Lib.decodeN
 have e : (240 + m / 262144) % 8 * 262144 + (128 + m / 4096 % 64) % 64 * 4096 + (128 + m / 64 % 64) % 64 * 64 + (128 + m % 64) % 64 = m := by omega
 rw [if_neg (by omega), if_neg (by omega), if_neg (by omega), if_pos ⟨by omega, ⟨by omega, by omega⟩, ⟨by omega, by omega⟩, by omega, by omega⟩, e, if_pos (by omega)]
theorem decodeL_enc (r : Int) (h : isRune r) (rest : List UInt8) : Lib.decodeL ((enc1 r).map (fun n => UInt8.ofNat n.toNat) ++ rest) = (r.toNat, (enc1 r).length) := by
 have hr : ∃ m : Nat, r = (m : Int) := ⟨r.toNat, by unfold isRune at h; omega⟩
 obtain ⟨m, rfl⟩ := hr
 have hv : m < 55296 ∨ (57344 ≤ m ∧ m ≤ 1114111) := by unfold isRune at h; omega
 have hlen : (enc1 (m : Int)).length = if m < 128 then 1 else if m < 2048 then 2 else if m < 65536 then 3 else 4 := by
  have := congrArg List.length (enc1_nat m)
  rw [List.length_map] at this
  rw [this]
  split
  ·rfl
  ·split
   ·rfl
   ·split <;> rfl
 rw [enc1_nat m, hlen, Lib.decodeL_N, Int.toNat_natCast]
 by_cases h1 : m < 128
 ·simp only [if_pos h1]
  have := decode1 m (1 + rest.length) (((UInt8.ofNat m :: rest).getD 1 0).toNat) (((UInt8.ofNat m :: rest).getD 2 0).toNat) (((UInt8.ofNat m :: rest).getD 3 0).toNat) h1
  simp only [List.cons_append, List.nil_append, List.length_cons, List.getD_cons_zero, u8n m (by omega)]
  exact decode1 _ _ _ _ _ h1
 ·simp only [if_neg h1]
  by_cases h2 : m < 2048
  ·simp only [if_pos h2, List.cons_append, List.nil_append, List.length_cons, List.getD_cons_zero, List.getD_cons_succ, u8n (192 + m / 64) (by omega), u8n (128 + m % 64) (by omega)]
   exact decode2 _ _ _ _ h1 h2 (by omega)
  ·simp only [if_neg h2]
   by_cases h3 : m < 65536
   ·simp only [if_pos h3, List.cons_append, List.nil_append, List.length_cons, List.getD_cons_zero, List.getD_cons_succ, u8n (224 + m / 4096) (by omega), u8n (128 + m / 64 % 64) (by omega), u8n (128 + m % 64) (by omega)]
    exact decode3 _ _ _ h2 h3 (by omega) (by omega)
   ·simp only [if_neg h3, List.cons_append, List.nil_append, List.length_cons, List.getD_cons_zero, List.getD_cons_succ, u8n (240 + m / 262144) (by omega), u8n (128 + m / 4096 % 64) (by omega), u8n (128 + m / 64 % 64) (by omega), u8n (128 + m % 64) (by omega)]
    exact decode4 _ _ h3 (by omega) (by omega)
def Runes (l : List Int) : Prop := ∀ r ∈ l, isRune r
theorem Runes.cons {r : Int} {l : List Int} (h : Runes (r :: l)) : isRune r ∧ Runes l := ⟨h r (by simp), fun x hx => h x (by simp [hx])⟩
theorem Runes.append {a b : List Int} (ha : Runes a) (hb : Runes b) : Runes (a ++ b) := fun x hx => (List.mem_append.1 hx).elim (ha x) (hb x)
theorem Runes.take {a : List Int} (h : Runes a) (n : Nat) : Runes (a.take n) := fun x hx => h x (List.mem_of_mem_take hx)
theorem Runes.drop {a : List Int} (h : Runes a) (n : Nat) : Runes (a.drop n) := fun x hx => h x (List.mem_of_mem_drop hx)
theorem Runes.nil : Runes [] := fun x hx => by cases hx
theorem size_none : (⟨#[]⟩ : ByteArray).size = 0 := rfl
theorem encL_ne (r : Int) (l : List Int) : encL (r :: l) ≠ [] := by
 have := enc1_length r
 intro h
 have h2 := congrArg List.length h
 rw [encL_cons, List.length_append, List.length_map, List.length_nil] at h2
 omega
theorem drop_enc (r : Int) (l : List Int) : (encL (r :: l)).drop (enc1 r).length = encL l := by
 rw [encL_cons, List.drop_left' (by simp)]
theorem validD_enc : ∀ (l : List Int), Runes l → Lib.validD (encL l) = true
 | [], _ => rfl
 | r :: l, h => by
  obtain ⟨h1, h2⟩ := h.cons
  rw [Lib.validD_step _ (encL_ne r l)]
  have hd : Lib.decodeL (encL (r :: l)) = (r.toNat, (enc1 r).length) := by rw [encL_cons]; exact decodeL_enc r h1 _
  rw [hd, drop_enc, if_neg ?_]
  ·exact validD_enc l h2
  ·rintro ⟨e1, e2⟩
   have e1 : r.toNat = 65533 := e1
   have e2 : (enc1 r).length = 1 := e2
   have hr : r = 65533 := by unfold isRune at h1; omega
   subst hr
   simp [enc1] at e2
theorem big_enc {l : List Int} (h : l.length ≤ 1099511627776) : (encT l).size ≤ 4398046511104 := by
 have := (encT_size l).2
 omega
theorem validStr_enc (l : List Int) (h : Runes l) (hl : l.length ≤ 1099511627776) : points_Valid.f (encT l) = some true := by
 have := big_enc hl
 exact valid_some (by omega) (by rw [encT_list]; exact validD_enc l h)
end Go.Proofs.YtkefbljogjcodaaDoor.F
end
section
namespace Go.Proofs.YtkefbljogjcodaaDoor.F
open Go.RowKit Go.Proofs.YtkefbljogjcodaaDoorW.PrintWords Go.Proofs.YtkefbljogjcodaaDoorW.PrintLast Go.Proofs.YtkefbljogjcodaaDoorW.PrintMore
set_option linter.unusedVariables false
set_option linter.unusedSimpArgs false
def Un.ok : Un → Prop
 | .put l => Runes l
 | _ => True
structure Ok (us : List Un) : Prop where
 ok : ∀ u ∈ us, u.ok
 len : us.length ≤ 2097152
 cin : (us.map Un.cin).sum ≤ 1048576
 cout : (us.map Un.cout).sum ≤ 1099511627776
theorem Ok.tail {u : Un} {us : List Un} (h : Ok (u :: us)) : Ok us := by
 have h1 := h.len
 have h2 := h.cin
 have h3 := h.cout
 simp only [List.map_cons, List.sum_cons, List.length_cons] at h1 h2 h3
 exact ⟨fun v hv => h.ok v (by simp [hv]), by omega, by omega, by omega⟩
theorem few_ok {u : Un} (h : u.few) : u.ok := by
 cases u with
 | put l => exact fun r hr => alpha_rune r (h.2 r hr)
 | keep n => trivial
 | drop n => trivial
theorem few_out {u : Un} (h : u.few) : u.cin ≤ 63 ∧ u.cout ≤ 63 := by
 cases u with
 | put l => exact ⟨Nat.zero_le _, by have := h.1; show l.length ≤ 63; omega⟩
 | keep n => exact ⟨h, h⟩
 | drop n => exact ⟨h, Nat.zero_le _⟩
theorem cout_few : ∀ (us : List Un), (∀ u ∈ us, u.few) → (us.map Un.cout).sum ≤ 63 * us.length
 | [], _ => Nat.zero_le _
 | u :: us, h => by
  have h1 := (few_out (h u (by simp))).2
  have h2 := cout_few us (fun v hv => h v (by simp [hv]))
  simp only [List.map_cons, List.sum_cons, List.length_cons]
  omega
theorem made_ok {us : List Un} {n : Nat} (h : Made us n) (hn : n ≤ 1048576) : Ok us := by
 have h1 := h.len
 have h2 := cout_few us h.few
 exact ⟨fun u hu => few_ok (h.few u hu), by omega, by rw [h.cin]; exact hn, by omega⟩
theorem none_valid : points_Valid.f ⟨#[]⟩ = some true := validStr_enc [] Runes.nil (by simp)
theorem spanMay_keep (n : Nat) (k3 : Int) (hk : k3 = 1 ∨ k3 = 3) (h : n ≤ 1048576) : Ev (fun k => span_May.f k k3 (n : Int) ⟨#[]⟩) 0 := by
 have hv := none_valid
 have hn : (⟨#[]⟩ : ByteArray).toList = [] := by rw [ByteArray.toList_eq]
 have hd : decide ((n : Int) > 1048576) = false := by simp; omega
 have j2 : Ev (fun k => span_May.j2 k false k3 (n : Int) ⟨#[]⟩) 0 := by
  refine Ev.step (f := fun _ => some 0) (fun k => ?_) (Ev.now _)
  rw [span_May.j2, if_neg (by simp), hv]
  rfl
 have j1 : ∀ b, Ev (fun k => span_May.j1 k false k3 (n : Int) ⟨#[]⟩ true b) 0 := by
  intro b
  refine Ev.step (f := fun k => span_May.j2 k false k3 (n : Int) ⟨#[]⟩) (fun k => ?_) j2
  rw [span_May.j1, if_neg (by simp), if_pos rfl, hn]
  rfl
 have j0 : ∀ b, Ev (fun k => span_May.j0 k false k3 (n : Int) ⟨#[]⟩ true b) 0 := by
  intro b
  refine Ev.step (f := fun k => span_May.j1 k false k3 (n : Int) ⟨#[]⟩ true b) (fun k => ?_) (j1 b)
  rw [span_May.j0, if_neg (by simp), if_pos rfl]
 have hso : ∃ b, span_of.f k3 (n : Int) ⟨#[]⟩ = some (true, b, true) := by
  rcases hk with rfl | rfl
  ·exact ⟨true, rfl⟩
  ·exact ⟨false, rfl⟩
 obtain ⟨b, hso⟩ := hso
 unfold span_May.f
 refine ev_some hso (ev_if_pos rfl (ev_if_pos rfl (ev_if_neg (by omega) ?_)))
 rw [hd]
 exact j0 b
theorem spanMay_put (l : List Int) (hl : Runes l) (h : l.length ≤ 1099511627776) : Ev (fun k => span_May.f k 2 0 (encT l)) 0 := by
 have hv := validStr_enc l hl h
 have j2 : Ev (fun k => span_May.j2 k false 2 0 (encT l)) 0 := by
  refine Ev.step (f := fun _ => some 0) (fun k => ?_) (Ev.now _)
  rw [span_May.j2, if_neg (by simp), hv]
  rfl
 have j1 : Ev (fun k => span_May.j1 k false 2 0 (encT l) false false) 0 := by
  refine Ev.step (f := fun k => span_May.j2 k false 2 0 (encT l)) (fun k => ?_) j2
  rw [span_May.j1, if_neg (by simp), if_neg (by simp)]
 have j0 : Ev (fun k => span_May.j0 k false 2 0 (encT l) false false) 0 := by
  refine Ev.step (f := fun k => span_May.j1 k false 2 0 (encT l) false false) (fun k => ?_) j1
  rw [span_May.j0, if_neg (by simp), if_neg (by simp)]
  rfl
 unfold span_May.f
 exact ev_some (show span_of.f 2 0 (encT l) = some (false, false, true) from rfl) (ev_if_pos rfl (ev_if_neg (by simp) j0))
theorem spanMay_is (u : Un) (h : u.ok) (h1 : u.cin ≤ 1048576) (h2 : u.cout ≤ 1099511627776) : Ev (fun k => span_May.f k u.sp.f0 u.sp.f1 u.sp.f2) 0 := by
 cases u with
 | keep n => exact spanMay_keep n 1 (.inl rfl) h1
 | put l => exact spanMay_put l h h2
 | drop n => exact spanMay_keep n 3 (.inr rfl) h1
theorem spanIn_is (u : Un) : span_In.f u.sp.f0 u.sp.f1 u.sp.f2 = some (u.cin : Int) := by
 cases u <;> rfl
theorem rowSum_loop (l : List Un) (hl : l.length ≤ 2097152) (hc : (l.map Un.cin).sum ≤ 1048576) : ∀ (r pre : List Un), l = pre ++ r →
  Ev (fun k => op_row_sum.l0 k (((pre.map Un.cin).sum : Nat) : Int) (l.map Un.sp) ((l.map Un.sp).length : Int) (pre.length : Int)) (((l.map Un.cin).sum : Nat) : Int)
 | [], pre, h => by
  refine Ev.step (f := fun _ => some (((l.map Un.cin).sum : Nat) : Int)) (fun k => ?_) (Ev.now _)
  rw [op_row_sum.l0, if_neg (by subst h; simp)]
  subst h
  simp
 | u :: r, pre, h => by
  have hlt : (pre.length : Int) < ((l.map Un.sp).length : Int) := by subst h; simp <;> omega
  have hll : pre.length + (r.length + 1) = l.length := by subst h; simp
  have hrd : rd_T26 (l.map Un.sp) (pre.length : Int) = u.sp := by
   rw [h, List.map_append, List.map_cons]
   exact rdS_at (by simp)
  have hs : (l.map Un.cin).sum = (pre.map Un.cin).sum + (u.cin + (r.map Un.cin).sum) := by rw [h]; simp
  have ih := rowSum_loop l hl hc r (pre ++ [u]) (by simp [h])
  refine Ev.step (fun k => ?_) ih
  rw [op_row_sum.l0, if_pos hlt, if_pos (by omega), if_pos hlt, hrd, spanIn_is, Option.bind_some, w64_succ _ (by omega), w64 (by omega) (by omega)]
  simp
theorem opIn_is {us : List Un} (h : Ok us) : Ev (fun k => op_In.f k (us.map Un.sp)) (((us.map Un.cin).sum : Nat) : Int) := by
 unfold op_In.f op_row_sum.f
 have := rowSum_loop us h.len h.cin us [] rfl
 exact Ev.bind (by simpa using this) (Ev.now _)
theorem opMay_loop (l : List Un) (hl : Ok l) : ∀ (r pre : List Un), l = pre ++ r →
  Ev (fun k => op_May.l0 k (l.map Un.sp) (l.map Un.sp) ((l.map Un.sp).length : Int) (pre.length : Int)) 0
 | [], pre, h => by
  have hci := hl.cin
  refine Ev.step (f := fun k => _) (fun k => by rw [op_May.l0, if_neg (by subst h; simp)]) ?_
  refine Ev.bind (opIn_is hl) ?_
  exact ev_if_neg (by omega) (Ev.now 0)
 | u :: r, pre, h => by
  have hlt : (pre.length : Int) < ((l.map Un.sp).length : Int) := by subst h; simp <;> omega
  have hll : pre.length + (r.length + 1) = l.length := by subst h; simp
  have hle := hl.len
  have hco := hl.cout
  have hci := hl.cin
  have hrd : rd_T26 (l.map Un.sp) (pre.length : Int) = u.sp := by
   rw [h, List.map_append, List.map_cons]
   exact rdS_at (by simp)
  have hs : (l.map Un.cout).sum = (pre.map Un.cout).sum + (u.cout + (r.map Un.cout).sum) := by rw [h]; simp
  have hs2 : (l.map Un.cin).sum = (pre.map Un.cin).sum + (u.cin + (r.map Un.cin).sum) := by rw [h]; simp
  have ih := opMay_loop l hl r (pre ++ [u]) (by simp [h])
  refine Ev.step (f := fun k => _) (fun k => by rw [op_May.l0, if_pos hlt, if_pos (by omega), if_pos hlt, hrd, w64_succ _ (by omega)]) ?_
  refine Ev.bind (spanMay_is u (hl.ok u (by rw [h]; simp)) (by omega) (by omega)) (ev_if_pos rfl ?_)
  simpa using ih
theorem opMay_is {us : List Un} (h : Ok us) : Ev (fun k => op_May.f k (us.map Un.sp)) 0 := by
 unfold op_May.f
 exact opMay_loop us h us [] rfl
end Go.Proofs.YtkefbljogjcodaaDoor.F
end
section
namespace Go.Proofs.YtkefbljogjcodaaDoor.F
open Go.RowKit Go.Proofs.YtkefbljogjcodaaDoorW.PrintWords Go.Proofs.YtkefbljogjcodaaDoorW.PrintLast Go.Proofs.YtkefbljogjcodaaDoorW.PrintMore
set_option linter.unusedVariables false
set_option linter.unusedSimpArgs false
def cells (B : List (List Int)) (q : List Int) (m : Nat) : List ByteArray := (B ++ q :: List.replicate m []).map encT
theorem cells_get (B : List (List Int)) (q : List Int) (m : Nat) : (cells B q m).getD B.length ⟨#[]⟩ = encT q := by
 unfold cells
 simp [List.getD_eq_getElem?_getD]
theorem cells_set (B : List (List Int)) (q p : List Int) (m : Nat) : (cells B q m).set B.length (encT p) = cells B p m := by
 unfold cells
 simp [List.set_append]
theorem cells_more (B : List (List Int)) (q : List Int) (n m : Nat) (h : n + 1 ≤ m) : cells B q m = cells (B ++ q :: List.replicate n []) [] (m - (n + 1)) := by
 unfold cells
 congr 1
 have e : List.replicate m ([] : List Int) = List.replicate n [] ++ [] :: List.replicate (m - (n + 1)) [] := by
  rw [← List.replicate_succ, List.replicate_append_replicate]
  congr 1
  omega
 rw [e]
 simp
theorem fill_at (C G : List Bool) (n : Nat) (b : Bool) : fillG (C ++ G) C.length n b = C ++ (List.replicate n b ++ G.drop n) := by
 unfold fillG
 simp [List.drop_append]
theorem bytes_none (s : ByteArray) : s ++ ⟨#[]⟩ = s := by
 apply ByteArray.ext
 simp [ByteArray.data_append]
theorem gapsL_is : ∀ (us : List Un) (B : List (List Int)) (q : List Int) (m : Nat) (C G : List Bool), C.length = B.length → B.length + (us.map Un.cin).sum ≤ 512 → (us.map Un.cin).sum ≤ m → (us.map Un.cin).sum ≤ G.length →
  q.length + (us.map Un.cout).sum ≤ 1099511627776 →
  ∃ m' G', gapsL (us.map Un.sp) B.length (cells B q m) (C ++ G) = some ((B ++ preq q (gpP (exU us)) ++ List.replicate m' []).map encT, C ++ gpG (exU us) ++ G')
 | [], B, q, m, C, G, hC, h1, h2, h3, h4 => ⟨m, G, by simp [gapsL, cells, exU, gpP, gpG, preq]⟩
 | u :: us, B, q, m, C, G, hC, h1, h2, h3, h4 => by
  simp only [List.map_cons, List.sum_cons] at h1 h2 h3 h4
  have hsz := (encT_size q).2
  cases u with
  | put l =>
   have h1 : B.length + (0 + (us.map Un.cin).sum) ≤ 512 := h1
   have h2 : 0 + (us.map Un.cin).sum ≤ m := h2
   have h3 : 0 + (us.map Un.cin).sum ≤ G.length := h3
   have h4 : q.length + (l.length + (us.map Un.cout).sum) ≤ 1099511627776 := h4
   have hl := (encT_size l).2
   obtain ⟨m', G', ih⟩ := gapsL_is us B (q ++ l) m C G hC (by omega) (by omega) (by omega) (by simp; omega)
   refine ⟨m', G', ?_⟩
   rw [List.map_cons, gapsL, cells_get]
   rw [show (Un.put l).sp.f1.toNat = 0 from rfl, show (Un.put l).sp.f2 = encT l from rfl, if_pos (by omega), ← encT_append, cells_set, ← hC, fill_at, hC]
   simp only [Nat.add_zero, List.replicate_zero, List.nil_append, List.drop_zero]
   rw [ih, exU_cons]
   rw [show (Un.put l).ex = l.map .p from rfl, gpP_put, gpG_put, preq_preq]
  | keep n =>
   have h1 : B.length + (n + (us.map Un.cin).sum) ≤ 512 := h1
   have h2 : n + (us.map Un.cin).sum ≤ m := h2
   have h3 : n + (us.map Un.cin).sum ≤ G.length := h3
   have h4 : q.length + (n + (us.map Un.cout).sum) ≤ 1099511627776 := h4
   rw [List.map_cons, gapsL, cells_get]
   rw [show (Un.keep n).sp.f1.toNat = n from Int.toNat_natCast n, show (Un.keep n).sp.f2 = ⟨#[]⟩ from rfl, if_pos ⟨by omega, by rw [size_none]; omega⟩, bytes_none, cells_set, ← hC, fill_at, hC, exU_cons]
   rw [show (Un.keep n).ex = List.replicate n .k from rfl, gpP_keep, gpG_keep, show ((Un.keep n).sp.f0 == 3) = false from rfl]
   cases n with
   | zero =>
    obtain ⟨m', G', ih⟩ := gapsL_is us B q m C G hC (by omega) (by omega) (by omega) (by omega)
    exact ⟨m', G', by simpa using ih⟩
   | succ n =>
    obtain ⟨m', G', ih⟩ := gapsL_is us (B ++ q :: List.replicate n []) [] (m - (n + 1)) (C ++ List.replicate (n + 1) false) (G.drop (n + 1)) (by simp [hC]) (by simp; omega) (by omega) (by rw [List.length_drop]; omega) (by simp; omega)
    refine ⟨m', G', ?_⟩
    rw [cells_more _ _ n m (by omega)]
    rw [preq_nil (gpP_ne _)] at ih
    have e : B.length + (n + 1) = (B ++ q :: List.replicate n ([] : List Int)).length := by simp
    rw [e, ← List.append_assoc, ih]
    simp [List.replicate_succ, preq]
  | drop n =>
   have h1 : B.length + (n + (us.map Un.cin).sum) ≤ 512 := h1
   have h2 : n + (us.map Un.cin).sum ≤ m := h2
   have h3 : n + (us.map Un.cin).sum ≤ G.length := h3
   have h4 : q.length + (0 + (us.map Un.cout).sum) ≤ 1099511627776 := h4
   rw [List.map_cons, gapsL, cells_get]
   rw [show (Un.drop n).sp.f1.toNat = n from Int.toNat_natCast n, show (Un.drop n).sp.f2 = ⟨#[]⟩ from rfl, if_pos ⟨by omega, by rw [size_none]; omega⟩, bytes_none, cells_set, ← hC, fill_at, hC, exU_cons]
   rw [show (Un.drop n).ex = List.replicate n .d from rfl, gpP_drop, gpG_drop, show ((Un.drop n).sp.f0 == 3) = true from rfl]
   cases n with
   | zero =>
    obtain ⟨m', G', ih⟩ := gapsL_is us B q m C G hC (by omega) (by omega) (by omega) (by omega)
    exact ⟨m', G', by simpa using ih⟩
   | succ n =>
    obtain ⟨m', G', ih⟩ := gapsL_is us (B ++ q :: List.replicate n []) [] (m - (n + 1)) (C ++ List.replicate (n + 1) true) (G.drop (n + 1)) (by simp [hC]) (by simp; omega) (by omega) (by rw [List.length_drop]; omega) (by simp; omega)
    refine ⟨m', G', ?_⟩
    rw [cells_more _ _ n m (by omega)]
    rw [preq_nil (gpP_ne _)] at ih
    have e : B.length + (n + 1) = (B ++ q :: List.replicate n ([] : List Int)).length := by simp
    rw [e, ← List.append_assoc, ih]
    simp [List.replicate_succ, preq]
theorem gapsOf_is {us : List Un} (h : Ok us) (h5 : (us.map Un.cin).sum ≤ 512) : Ev (fun k => gaps_Of.f k (us.map Un.sp)) ((gpP (exU us)).map encT, gpG (exU us), 0) := by
 have hco := h.cout
 unfold gaps_Of.f
 refine Ev.bind (opMay_is h) (ev_if_pos rfl ?_)
 refine Ev.bind (opIn_is h) (ev_if_neg (by omega) (ev_if_pos (by omega) ?_))
 obtain ⟨m', G', e⟩ := gapsL_is us [] [] 512 [] (List.replicate 512 false) rfl (by rw [List.length_nil]; omega) h5 (by rw [List.length_replicate]; exact h5) (by rw [List.length_nil]; omega)
 have e1 : cells [] [] 512 = List.replicate 513 ⟨#[]⟩ := by
  unfold cells
  rw [List.nil_append, ← List.replicate_succ, List.map_replicate, encT_nil]
 rw [e1] at e
 simp only [List.length_nil, List.nil_append] at e
 rw [preq_nil (gpP_ne _)] at e
 refine ev_some e ?_
 rw [Int.toNat_natCast]
 have l1 : ((gpP (exU us)).map encT).length = (us.map Un.cin).sum + 1 := by rw [List.length_map, gpP_length, cinU_ex]
 have l2 : (gpG (exU us)).length = (us.map Un.cin).sum := by rw [gpG_length, cinU_ex]
 have t1 : ((gpP (exU us) ++ List.replicate m' []).map encT).take ((us.map Un.cin).sum + 1) = (gpP (exU us)).map encT := by
  rw [List.map_append, List.take_left' l1]
 have t2 : (gpG (exU us) ++ G').take (us.map Un.cin).sum = gpG (exU us) := List.take_left' l2
 simp only [t1, t2]
 exact Ev.now _
end Go.Proofs.YtkefbljogjcodaaDoor.F
end
section
namespace Go.Proofs.YtkefbljogjcodaaDoor.F
open Go.RowKit Go.Proofs.YtkefbljogjcodaaDoorW.PrintWords Go.Proofs.YtkefbljogjcodaaDoorW.PrintLast Go.Proofs.YtkefbljogjcodaaDoorW.PrintMore
set_option linter.unusedVariables false
set_option linter.unusedSimpArgs false
theorem toList_inj {a b : ByteArray} (h : a.toList = b.toList) : a = b := by
 rw [ByteArray.toList_eq, ByteArray.toList_eq] at h
 apply ByteArray.ext
 exact Array.ext' h
end Go.Proofs.YtkefbljogjcodaaDoor.F
end
section
namespace Go.Proofs.YtkefbljogjcodaaDoor.F
open Go.RowKit Go.Proofs.YtkefbljogjcodaaDoorW.PrintWords Go.Proofs.YtkefbljogjcodaaDoorW.PrintLast Go.Proofs.YtkefbljogjcodaaDoorW.PrintMore
set_option linter.unusedVariables false
set_option linter.unusedSimpArgs false
def RunesU (y : List U) : Prop := ∀ r, U.p r ∈ y → isRune r
theorem RunesU.append {a b : List U} (ha : RunesU a) (hb : RunesU b) : RunesU (a ++ b) := fun r h => (List.mem_append.1 h).elim (ha r) (hb r)
theorem RunesU.tail {t : U} {y : List U} (h : RunesU (t :: y)) : RunesU y := fun r hr => h r (by simp [hr])
theorem RunesU.put {l : List Int} (h : Runes l) : RunesU (l.map .p) := by
 intro r hr
 obtain ⟨x, hx, e⟩ := List.mem_map.1 hr
 injection e with e
 rw [← e]
 exact h x hx
theorem runesU_ex : ∀ us : List Un, (∀ u ∈ us, u.ok) → RunesU (exU us)
 | [], _ => fun r h => by cases h
 | u :: us, h => by
  rw [exU_cons]
  refine RunesU.append ?_ (runesU_ex us (fun v hv => h v (by simp [hv])))
  cases u with
  | keep n => intro r hr; have := List.eq_of_mem_replicate hr; cases this
  | put l => exact RunesU.put (h (.put l) (by simp))
  | drop n => intro r hr; have := List.eq_of_mem_replicate hr; cases this
theorem gpP_sum : ∀ x : List U, ((gpP x).map List.length).sum ≤ coutU x
 | [] => Nat.le_refl _
 | .p r :: x => by
  have ih := gpP_sum x
  have hne := gpP_ne x
  rw [gpP, show coutU (U.p r :: x) = coutU x + 1 from rfl]
  generalize gpP x = c at *
  rcases c with _ | ⟨a, c⟩
  ·exact absurd rfl hne
  ·simp [preq] at ih ⊢; omega
 | .k :: x => by have := gpP_sum x; simp [gpP, coutU]; omega
 | .d :: x => by have := gpP_sum x; simp [gpP, coutU]; omega
end Go.Proofs.YtkefbljogjcodaaDoor.F
end
section
namespace Go.Proofs.YtkefbljogjcodaaDoor.F
open Go.RowKit Go.Proofs.YtkefbljogjcodaaDoorW.PrintWords Go.Proofs.YtkefbljogjcodaaDoorW.PrintLast Go.Proofs.YtkefbljogjcodaaDoorW.PrintMore
set_option linter.unusedVariables false
set_option linter.unusedSimpArgs false
theorem rdB_at (l : List ByteArray) (pre r : List ByteArray) (c : ByteArray) (h : l = pre ++ c :: r) : rdOf ByteArray.empty l (pre.length : Int) = c := by
 subst h
 unfold rdOf
 simp [List.getD_eq_getElem?_getD]
theorem rdG_at (l : List Bool) (pre r : List Bool) (c : Bool) (h : l = pre ++ c :: r) : rdOf false l (pre.length : Int) = c := by
 subst h
 unfold rdOf
 simp [List.getD_eq_getElem?_getD]
theorem same6_l1 (x0 y0 : List ByteArray) (a b : List Bool) (hl : a.length = b.length) (hm : a.length ≤ 4611686018427387904) : ∀ (r q pre pre2 : List Bool), a = pre ++ r → b = pre2 ++ q → pre.length = pre2.length →
  Ev (fun k => epitomeref06_Same.l1 k (pre.length : Int) x0 a y0 b) (decide (r = q))
 | [], q, pre, pre2, h1, h2, h3 => by
  have hq : q = [] := by
   have := congrArg List.length h1
   have := congrArg List.length h2
   simp at *
   exact List.eq_nil_of_length_eq_zero (by omega)
  subst hq
  refine Ev.step (f := fun _ => some true) (fun k => ?_) (by simpa using Ev.now true)
  rw [epitomeref06_Same.l1, if_neg (by subst h1; simp)]
 | t :: r, q, pre, pre2, h1, h2, h3 => by
  have e1 : a.length = pre.length + (r.length + 1) := by rw [h1]; simp
  have e2 : b.length = pre2.length + q.length := by rw [h2]; simp
  rcases q with _ | ⟨u, q⟩
  ·simp at e2; omega
  have ra := rdG_at a pre r t h1
  have rb := rdG_at b pre2 q u h2
  rw [← h3] at rb
  have ih := same6_l1 x0 y0 a b hl hm r q (pre ++ [t]) (pre2 ++ [u]) (by simp [h1]) (by simp [h2]) (by simp [h3])
  by_cases htu : t = u
  ·subst htu
   rw [show decide (t :: r = t :: q) = decide (r = q) by simp]
   refine Ev.step (fun k => ?_) ih
   rw [epitomeref06_Same.l1, if_pos (by omega), if_pos (by omega), if_pos (by omega), ra, rb, if_neg (by simp), w64_succ _ (by omega)]
   simp
  ·rw [show decide (t :: r = u :: q) = false by simp [htu]]
   refine Ev.step (f := fun _ => some false) (fun k => ?_) (Ev.now _)
   rw [epitomeref06_Same.l1, if_pos (by omega), if_pos (by omega), if_pos (by omega), ra, rb, if_pos (by simp [htu])]
theorem same6_l0 (x1 y1 : List Bool) (a b : List ByteArray) (v : Bool) (hl : a.length = b.length) (hm : a.length ≤ 4611686018427387904) (hv : Ev (fun k => epitomeref06_Same.l1 k 0 a x1 b y1) v) : ∀ (r q pre pre2 : List ByteArray), a = pre ++ r → b = pre2 ++ q → pre.length = pre2.length →
  Ev (fun k => epitomeref06_Same.l0 k (pre.length : Int) a x1 b y1) (decide (r = q) && v)
 | [], q, pre, pre2, h1, h2, h3 => by
  have hq : q = [] := by
   have := congrArg List.length h1
   have := congrArg List.length h2
   simp at *
   exact List.eq_nil_of_length_eq_zero (by omega)
  subst hq
  refine Ev.step (fun k => ?_) (by simpa using hv)
  rw [epitomeref06_Same.l0, if_neg (by subst h1; simp)]
 | t :: r, q, pre, pre2, h1, h2, h3 => by
  have e1 : a.length = pre.length + (r.length + 1) := by rw [h1]; simp
  have e2 : b.length = pre2.length + q.length := by rw [h2]; simp
  rcases q with _ | ⟨u, q⟩
  ·simp at e2; omega
  have ra := rdB_at a pre r t h1
  have rb := rdB_at b pre2 q u h2
  rw [← h3] at rb
  have ih := same6_l0 x1 y1 a b v hl hm hv r q (pre ++ [t]) (pre2 ++ [u]) (by simp [h1]) (by simp [h2]) (by simp [h3])
  by_cases htu : t = u
  ·subst htu
   rw [show decide (t :: r = t :: q) = decide (r = q) by simp]
   refine Ev.step (fun k => ?_) ih
   rw [epitomeref06_Same.l0, if_pos (by omega), if_pos (by omega), if_pos (by omega), ra, rb, if_pos rfl, w64_succ _ (by omega)]
   simp
  ·rw [show (decide (t :: r = u :: q) && v) = false by simp [htu]]
   refine Ev.step (f := fun _ => some false) (fun k => ?_) (Ev.now _)
   rw [epitomeref06_Same.l0, if_pos (by omega), if_pos (by omega), if_pos (by omega), ra, rb, if_neg (fun h => htu (toList_inj h))]
theorem same6_is (a b : List ByteArray) (g h : List Bool) (hm : a.length ≤ 4611686018427387904) (hg : g.length ≤ 4611686018427387904) :
  Ev (fun k => epitomeref06_Same.f k a g b h) (decide (a = b ∧ g = h)) := by
 have no : ∀ {w : Bool}, w = false → Ev (fun k => epitomeref06_Same.j0 k true a g b h) w := by
  rintro _ rfl
  refine Ev.step (f := fun _ => some false) (fun k => ?_) (Ev.now _)
  rw [epitomeref06_Same.j0, if_pos rfl]
 unfold epitomeref06_Same.f
 by_cases h1 : (a.length : Int) = (b.length : Int)
 ·refine ev_if_pos h1 ?_
  by_cases h2 : g.length = h.length
  ·rw [show ((g.length : Int) != (h.length : Int)) = false by simp [h2]]
   refine Ev.step (f := fun k => epitomeref06_Same.l0 k 0 a g b h) (fun k => by rw [epitomeref06_Same.j0, if_neg (by simp)]) ?_
   have v := same6_l1 a b g h h2 hg g h [] [] rfl rfl rfl
   have := same6_l0 g h a b _ (by omega) hm v a b [] [] rfl rfl rfl
   rw [show decide (a = b ∧ g = h) = (decide (a = b) && decide (g = h)) from Bool.decide_and _ _]
   exact this
  ·rw [show ((g.length : Int) != (h.length : Int)) = true by simp; omega]
   refine no ?_
   simp
   intro _ e
   exact h2 (by rw [e])
 ·refine ev_if_neg h1 (no ?_)
  simp
  intro e
  exact absurd (by rw [e]) h1
structure FitU (us : List Un) (n : Nat) : Prop where
 ok : Ok us
 few : ∀ u ∈ us, u.few
 len : us.length ≤ 13
 cin : (us.map Un.cin).sum = n
 cinU : cinU (exU us) = n
 cout : (us.map Un.cout).sum ≤ 819
 coutU : coutU (exU us) ≤ 819
 runes : RunesU (exU us)
theorem made_fit {us : List Un} {n : Nat} (h : Made us n) (hn : n ≤ 1048576) : FitU us n := by
 have h1 := made_ok h hn
 have h2 := cout_few us h.few
 have h3 := h.len
 refine ⟨h1, h.few, h3, h.cin, by rw [cinU_ex]; exact h.cin, by omega, by rw [coutU_ex]; omega, runesU_ex us h1.ok⟩
end Go.Proofs.YtkefbljogjcodaaDoor.F
end
section
namespace Go.Proofs.YtkefbljogjcodaaDoor.F
open Go.RowKit Go.Proofs.YtkefbljogjcodaaDoorW.PrintWords Go.Proofs.YtkefbljogjcodaaDoorW.PrintLast Go.Proofs.YtkefbljogjcodaaDoorW.PrintMore
set_option linter.unusedVariables false
set_option linter.unusedSimpArgs false
def shownU : List Un := [.keep 1, .drop 1, .put [120]]
theorem shownU_sp : shownU.map Un.sp = ([(⟨1, 1, (⟨#[]⟩ : ByteArray)⟩ : Sp), (⟨3, 1, (⟨#[]⟩ : ByteArray)⟩ : Sp), (⟨2, 0, (⟨#[120]⟩ : ByteArray)⟩ : Sp)] : List Sp) := rfl
theorem shownU_ok : Ok shownU := by
 refine ⟨?_, by decide, by decide, by decide⟩
 intro u hu
 simp [shownU] at hu
 rcases hu with rfl | rfl | rfl
 ·trivial
 ·trivial
 ·intro r hr
  simp at hr
  subst hr
  exact .inl (by decide)
theorem shown06 : Ev (fun k => epitomelaw06_shown.f k) true := by
 unfold epitomelaw06_shown.f
 rw [← shownU_sp]
 refine Ev.bind (gapsOf_is shownU_ok (by decide)) (ev_if_pos rfl ?_)
 have := same6_is ((gpP (exU shownU)).map encT) ([(⟨#[]⟩ : ByteArray), (⟨#[]⟩ : ByteArray), (⟨#[120]⟩ : ByteArray)] : List ByteArray) (gpG (exU shownU)) [false, true] (by decide) (by decide)
 refine Ev.bind this ?_
 rw [show decide ((gpP (exU shownU)).map encT = ([(⟨#[]⟩ : ByteArray), (⟨#[]⟩ : ByteArray), (⟨#[120]⟩ : ByteArray)] : List ByteArray) ∧ gpG (exU shownU) = [false, true]) = true from decide_eq_true ⟨rfl, rfl⟩]
 exact Ev.now _
end Go.Proofs.YtkefbljogjcodaaDoor.F
end
section
namespace Go.Proofs.YtkefbljogjcodaaDoor.F
open Go.RowKit Go.Proofs.YtkefbljogjcodaaDoorW.PrintWords Go.Proofs.YtkefbljogjcodaaDoorW.PrintLast Go.Proofs.YtkefbljogjcodaaDoorW.PrintMore
set_option linter.unusedVariables false
set_option linter.unusedSimpArgs false
theorem bools_of_struct {H : Type} {enc : TypeId × Value → H} {P : Program} {w : World} {base : Nat} {sp : Nat → Bool} {held : Bool} {fuel : Nat} {t : TypeId} {fs : Array Field} {cs : List Value} {zs : List Bool} {p : List MemPlace} (ht : P.underlying t = some (.struct fs))
    (hf : ∀ (i : Nat) (f : Field), fs[i]? = some f → P.underlying f.type = some .bool ∧ f.offset = i ∧ P.cellsOf f.type = 1) (hct : P.cellsOf t = fs.size)
    (h : DataW.trod enc P w base sp held fuel t cs = some (.agg (zs.map fun z => .lit (.bool z)), p)) : cs = zs.map fun z => Value.bool z := by
  obtain ⟨xs, n, rfl, hx, hl, hxl, hall⟩ := DataW.trod_struct ht h
  have hxs : xs.map (·.1) = zs.map fun z => (DataW.lit (.bool z) : DataW H) := by
    have := congrArg Prod.fst hx
    simpa using this.symm
  have hzl : zs.length = fs.size := by
    have := congrArg List.length hxs
    simp at this
    omega
  apply List.ext_getElem?
  intro i
  by_cases hi : i < fs.size
  · obtain ⟨hu, ho, hc⟩ := hf i fs[i] (by simp [hi])
    have h1 := hall i fs[i] (by simp [hi])
    obtain ⟨b, hb⟩ : ∃ b, xs[i]? = some b := ⟨xs[i]'(by omega), List.getElem?_eq_getElem (by omega)⟩
    rw [hb, ho, hc] at h1
    obtain ⟨z, hcz, rfl⟩ := DataW.trod_bool hu h1
    have h2 : cs[i]? = some (.bool z) := by
      have := congrArg (·[0]?) hcz
      simpa [List.getElem?_take, List.getElem?_drop] using this
    have h3 : (xs.map (·.1))[i]? = some (DataW.lit (.bool z) : DataW H) := by simp [hb]
    rw [hxs] at h3
    simp only [List.getElem?_map, Option.map_eq_some_iff, DataW.lit.injEq, Lit.bool.injEq] at h3
    obtain ⟨z', hz', rfl⟩ := h3
    simp [h2, hz']
  · rw [List.getElem?_eq_none (by omega), List.getElem?_eq_none (by simp; omega)]
theorem kinds_of_reads {W : World} (h : Lib.VarReads Tryd.prog W "epitome/span.kinds" Rows.laid_epitome_span_kinds) (i : Nat) (hi : i < 4) :
    W.cell? ⟨0, 2 * i, none⟩ = some (.bool (decide (i = 1 ∨ i = 3))) ∧ W.cell? ⟨0, 2 * i + 1, none⟩ = some (.bool (decide (i = 1))) := by
  obtain ⟨g, t, cs, fuel, p, hg, hty, hvar, hd⟩ := h
  have n0 : Tryd.prog.globalNamed "epitome/span.kinds" = some 0 := by kernel_rfl
  have y0 : (Tryd.prog.globals[0]?).map (·.type) = some 112 := by kernel_rfl
  have c4 : Tryd.prog.cellsOf 4 = 1 := by kernel_rfl
  have c90 : Tryd.prog.cellsOf 102 = 2 := by kernel_rfl
  obtain rfl := Option.some.inj (n0.symm.trans hg)
  obtain rfl := Option.some.inj (y0.symm.trans hty)
  obtain ⟨fuel', d, q, hdi, he⟩ := Lib.array_elem Tryd.underlying112 hd i hi
  have hdd : d = .agg ([decide (i = 1 ∨ i = 3), decide (i = 1)].map fun z => .lit (.bool z)) := by
    have : i = 0 ∨ i = 1 ∨ i = 2 ∨ i = 3 := by omega
    rcases this with rfl | rfl | rfl | rfl <;> (simp at hdi; exact hdi.symm)
  rw [hdd, c90] at he
  have hcs := bools_of_struct Tryd.underlying102 (fun j f hj => by
    match j, hj with
    | 0, hj => simp at hj; subst hj; exact ⟨Tryd.underlying4, rfl, c4⟩
    | 1, hj => simp at hj; subst hj; exact ⟨Tryd.underlying4, rfl, c4⟩
    | j + 2, hj => simp at hj) (by rw [c90]; rfl) he
  have e0 := congrArg (·[0]?) hcs
  have e1 := congrArg (·[1]?) hcs
  simp only [List.getElem?_take, List.getElem?_drop] at e0 e1
  constructor
  · rw [World.var?_cell n0 hvar (2 * i), ← Array.getElem?_toList]
    simpa [Nat.mul_comm] using e0
  · rw [World.var?_cell n0 hvar (2 * i + 1), ← Array.getElem?_toList]
    simpa [Nat.mul_comm] using e1
theorem accept_eq : (Rows.laid_unicode_utf8_acceptRanges : DataW Unit) = Lib.acceptData := by kernel_rfl
theorem first_eq : Rows.laid_unicode_utf8_first = Lib.firstData := by kernel_rfl
theorem glob_of_reads {W : World} (h1 : Lib.VarReads Tryd.prog W "unicode/utf8.first" Rows.laid_unicode_utf8_first) (h2 : Lib.VarReads Tryd.prog W "unicode/utf8.acceptRanges" Rows.laid_unicode_utf8_acceptRanges)
    (h3 : Lib.VarReads Tryd.prog W "epitome/span.kinds" Rows.laid_epitome_span_kinds) : Glob W := by
  rw [first_eq] at h1
  rw [accept_eq] at h2
  have k1 := kinds_of_reads h3 1 (by decide)
  have k2 := kinds_of_reads h3 2 (by decide)
  have k3 := kinds_of_reads h3 3 (by decide)
  exact ⟨k1.1, k1.2, k2.1, k2.2, k3.1, k3.2, utf8Tabs_of_readsT (Go.Proofs.U8Types.of196 Tryd.laysValid) ⟨by kernel_rfl, by kernel_rfl, by kernel_rfl, by kernel_rfl, by kernel_rfl, by kernel_rfl, by kernel_rfl⟩ h1 h2⟩
noncomputable def laidWorld (os : Os) : World :=
  let w0 := World.holding Tryd.prog os ⟨#[], #[], []⟩
  let put (h : Array Obj) (g : Nat) (cs : Array Value) : Array Obj := h.modify g fun
    | .cells _ t frozen => .cells cs t frozen
    | o => o
  let h1 := put w0.heap 0 #[.bool false, .bool false, .bool true, .bool true, .bool false, .bool false, .bool true, .bool false]
  let h2 := put h1 1 (Lib.firstTab.map fun z => Value.int .u8 z).toArray
  let h3 := put h2 2 ((List.range 16).flatMap fun i => [Value.int .u8 (Lib.accLo i), Value.int .u8 (Lib.accHi i)]).toArray
  { w0 with heap := h3 }
end Go.Proofs.YtkefbljogjcodaaDoor.F
end
