import Derived.Test.YtkefbljogjcodaaDoorKCApplyRowD
import Derived.Below
import Derived.Deep.Draws
import Derived.Deep.AppendLies
import Derived.Maps.AppendAt
import Derived.OwnWalk
import Derived.Laws.BytesArg
import Derived.Laws.MakeOwn
import Derived.Laws.OwnMore
import Derived.Deep.OwnRows
import Derived.Tactics
import Derived.Lib.ConvBytes
import Derived.Laws.Slices
import Derived.WalkKit
import Derived.KernelRfl
import Derived.RowKit3
import Derived.Deep.LoopGhost
import Derived.Deep.QuietTactic
import Derived.BigQuiet
import Derived.WideLaws
import Derived.Deep.DeepCutAuto
import Derived.Deep.CutBlock
import Derived.Deep.RegionHeld3
import Derived.Laws.Rows
import Derived.Lib.AppendStr
import Derived.ArgAppend
import Derived.Laws.IdiomCopy
import Derived.RowKit
import Derived.OrdersHeld
import Derived.Laws.BitsLemmas
import Derived.Laws.StructEq
import Derived.Test.YtkefbljogjcodaaDoorProg
import Derived.Handy
import Derived.Shelf.Unicode.DecodeSlow
import Derived.Ground.NamesProg
import Derived.Shelf.Unicode.ValidAny
import Derived.Laws.IdiomStrings
import Derived.Laws.Cover4
import Derived.Laws.RangeString
import Derived.Laws.RangeAny
import Derived.Lib.RuneCount
import Derived.ProofKit
import Derived.OpenShut
import Derived.ShutString
import Derived.ChangeOld
import Derived.SizedLaws
import Derived.Lib.ValidLaws
import Derived.Test.YtkefbljogjcodaaDoorRows
import Derived.Lib.LaidU8T
import Derived.Lib.LaidIn
import Derived.LaidLaws
section
namespace Go.Proofs.YtkefbljogjcodaaDoor.F
open Go.RowKit Go.Proofs.YtkefbljogjcodaaDoorW.PrintWords Go.Proofs.YtkefbljogjcodaaDoorW.PrintLast Go.Proofs.YtkefbljogjcodaaDoorW.PrintMore
set_option linter.unusedVariables false
set_option linter.unusedSimpArgs false
def Opens {α : Type} (P : Program) (t : TypeId) (d : Kd α) (V : α → Prop) : Prop :=
  ∀ {H : Type} (enc : TypeId × Value → H) (w : World) (base : Nat) (spare : Nat → Bool) (held : Bool) (fuel : Nat) (cs : List Value) (x : DataW H × List MemPlace),
    DataW.trod enc P w base spare held fuel t cs = some x → ∃ a : α, d.K w a cs ∧ V a
theorem opens_int {P : Program} {t : TypeId} {k : IntKind} (ht : P.underlying t = some (.int k)) : Opens P t (Kd.int k) (fun n => (Lit.int k n).wf = true) := by
  intro H enc w base spare held fuel cs x h
  obtain ⟨n, hc, _, hw⟩ := DataW.trod_int ht h
  exact ⟨n, hc, hw⟩
theorem opens_string {P : Program} {t : TypeId} (ht : P.underlying t = some .string) : Opens P t Kd.string (fun s => s.size ≤ maxLen) := by
  intro H enc w base spare held fuel cs x h
  obtain ⟨s, hc, _, hs⟩ := DataW.trod_string ht h
  exact ⟨s, hc, hs⟩
theorem list_of_each {α : Type} (R : Nat → α → Prop) : ∀ n : Nat, (∀ i, i < n → ∃ x, R i x) → ∃ l : List α, l.length = n ∧ ∀ i x, l[i]? = some x → R i x
  | 0, _ => ⟨[], rfl, fun i x h => by simp at h⟩
  | n + 1, h => by
    obtain ⟨l, hl, hr⟩ := list_of_each R n (fun i hi => h i (by omega))
    obtain ⟨x, hx⟩ := h n (by omega)
    refine ⟨l ++ [x], by simp [hl], fun i y hy => ?_⟩
    rw [List.getElem?_append] at hy
    split at hy
    · exact hr i y hy
    · next hge =>
      have : i = n := by
        have := (List.getElem?_eq_some_iff.1 hy).1
        simp at this
        omega
      subst this
      simp [hl] at hy
      exact hy ▸ hx
theorem cells_each {w : World} {base : Nat} {a : Addr} {n : Nat} {cs : List Value} (h : w.cells? base a n = some cs) : cs.length = n ∧ ∀ i u, cs[i]? = some u → w.cell? (a.add i) = some u := by
  unfold World.cells? at h
  split at h
  · have hl : cs.length = n := by
      have := mapM_some_length h
      simpa using this
    exact ⟨hl, fun i u hu => by
      have hi : i < n := by have := (List.getElem?_eq_some_iff.1 hu).1; omega
      rw [mapM_some_get h i i (by simp [hi])]
      exact hu⟩
  · cases h
theorem add_add (a : Addr) (i j : Nat) : (a.add i).add j = a.add (i + j) := by
  by_cases hi : i = 0
  · subst hi; simp [Addr.add]
  · by_cases hj : j = 0
    · subst hj; simp [Addr.add]
    · simp [Addr.add, hi, hj, Nat.add_assoc]
theorem opens_slice {α : Type} {P : Program} {t e : TypeId} {d : Kd α} {V : α → Prop} (ht : P.underlying t = some (.slice e)) (hc : P.cellsOf e = d.sz) (h : Opens P e d V) :
    Opens P t (Kd.slice e d) (fun l => l.length ≤ maxLen ∧ ∀ x ∈ l, V x) := by
  intro H enc w base spare held fuel cs x hx
  rcases DataW.trod_slice ht hx with ⟨rfl, rfl⟩ | ⟨a, len, cap, elems, rest, n, _, rfl, rfl, hb, hl, hm, hlen, hel, _, _⟩
  · exact ⟨[], ⟨none, 0, rfl, Nat.le_refl _, Kd.C_nil _ _⟩, by simp, by simp⟩
  · have each : ∀ i, i < len → ∃ p : α, (∃ c, c.length = d.sz ∧ d.K w p c ∧ ∀ j u, c[j]? = some u → w.cell? (a.add (i * d.sz + j)) = some u) ∧ V p := by
      intro i hi
      have hi' := hel i hi
      have hs : elems[i]? = some (elems[i]'(by omega)) := List.getElem?_eq_getElem (by omega)
      rw [hs, Option.bind_eq_some_iff] at hi'
      obtain ⟨c, hcs, hy⟩ := hi'
      obtain ⟨p, hp, hv⟩ := h enc w base spare held n c _ hy
      obtain ⟨hcl, hce⟩ := cells_each hcs
      refine ⟨p, ⟨c, hcl.trans hc, hp, fun j u hu => ?_⟩, hv⟩
      have := hce j u hu
      rw [add_add, hc] at this
      exact this
    obtain ⟨l, hll, hlr⟩ := list_of_each _ len each
    have hm' : len ≤ 9223372036854775807 := by unfold maxLen at hm; omega
    refine ⟨l, ⟨some a, cap, by rw [hll], by omega, rfl, by omega, fun _ => ⟨a, rfl, fun j p hj => (hlr j p hj).1⟩⟩, by unfold maxLen at hm ⊢; omega, fun x hx => ?_⟩
    obtain ⟨j, hj⟩ := List.getElem?_of_mem hx
    exact (hlr j x hj).2
end Go.Proofs.YtkefbljogjcodaaDoor.F
end
section
namespace Go.Proofs.YtkefbljogjcodaaDoor.F
open Go.RowKit Go.Proofs.YtkefbljogjcodaaDoorW.PrintWords Go.Proofs.YtkefbljogjcodaaDoorW.PrintLast Go.Proofs.YtkefbljogjcodaaDoorW.PrintMore
attribute [local go_sem] max2_int min2_int max_two min_two max_three min_three max_four min_four cell_setCell_isSome
set_option linter.unusedVariables false
set_option linter.unusedSimpArgs false
def V26 (x : S26) : Prop := ((Lit.int .i64 x.f0).wf = true) ∧ ((Lit.int .i64 x.f1).wf = true) ∧ (x.f2.size ≤ maxLen)
set_option maxRecDepth 10000 in
theorem opens26 : Opens Tryd.prog 26 k26 V26 := by
  intro H enc w base spare held fuel cs x h
  obtain ⟨xs, n, rfl, rfl, hlen, hxs, hf⟩ := DataW.trod_struct Tryd.underlying26 h
  have hl : cs.length = 3 := hlen.trans (by kernel_rfl)
  have hx : xs.length = 3 := hxs
  have h0 := hf 0 _ rfl
  rw [List.getElem?_eq_getElem (show 0 < xs.length by omega)] at h0
  obtain ⟨v0, k0, p0⟩ := (opens_int Tryd.underlying3) enc w base spare held n _ _ h0
  have h1 := hf 1 _ rfl
  rw [List.getElem?_eq_getElem (show 1 < xs.length by omega)] at h1
  obtain ⟨v1, k1, p1⟩ := (opens_int Tryd.underlying3) enc w base spare held n _ _ h1
  have h2 := hf 2 _ rfl
  rw [List.getElem?_eq_getElem (show 2 < xs.length by omega)] at h2
  obtain ⟨v2, k2, p2⟩ := (opens_string Tryd.underlying9) enc w base spare held n _ _ h2
  refine ⟨⟨v0, v1, v2⟩, ?_, ⟨p0, p1, p2⟩⟩
  have e2 : cs = (cs.drop 0).take 1 ++ ((cs.drop 1).take 1 ++ ((cs.drop 2).take 1)) := by
    match cs, hl with
    | [c0, c1, c2], _ => rfl
  rw [e2]
  exact ⟨_, _, rfl, (show ((Kd.int .i64)).K w _ ((cs.drop 0).take 1) from k0), ⟨_, _, rfl, (show ((Kd.int .i64)).K w _ ((cs.drop 1).take 1) from k1), (show (Kd.string).K w _ ((cs.drop 2).take 1) from k2)⟩⟩
end Go.Proofs.YtkefbljogjcodaaDoor.F
end
section
namespace Go.Proofs.YtkefbljogjcodaaDoor.F
open Go.RowKit Go.Proofs.YtkefbljogjcodaaDoorW.PrintWords Go.Proofs.YtkefbljogjcodaaDoorW.PrintLast Go.Proofs.YtkefbljogjcodaaDoorW.PrintMore
set_option linter.unusedVariables false
set_option linter.unusedSimpArgs false
theorem ev_if_pos {α : Type} {c : Prop} [Decidable c] {g f : Nat → Option α} {r : α} (hc : c) (h : Ev g r) : Ev (fun k => if c then g k else f k) r := by
  simp only [if_pos hc]; exact h
theorem ev_if_neg {α : Type} {c : Prop} [Decidable c] {g f : Nat → Option α} {r : α} (hc : ¬ c) (h : Ev f r) : Ev (fun k => if c then g k else f k) r := by
  simp only [if_neg hc]; exact h
theorem ev_some {α β : Type} {g : Option α} {a : α} {f : Nat → α → Option β} {r : β} (hg : g = some a) (h : Ev (fun n => f n a) r) : Ev (fun n => g.bind (f n)) r := by
  subst hg; exact h
theorem w64 {x : Int} (h : -9223372036854775808 ≤ x) (h2 : x ≤ 9223372036854775807) : wrap64 x = x := by unfold wrap64; omega
theorem wf_bounds {x : Int} (h : (Lit.int .i64 x).wf = true) : -9223372036854775808 ≤ x ∧ x ≤ 9223372036854775807 := by
  simp [Lit.wf, IntKind.min, IntKind.max, IntKind.bits, IntKind.signed] at h
  omega
theorem wf_u8 {x : Int} (h : (Lit.int .u8 x).wf = true) : 0 ≤ x ∧ x ≤ 255 := by
  simp [Lit.wf, IntKind.min, IntKind.max, IntKind.bits, IntKind.signed] at h
  omega
end Go.Proofs.YtkefbljogjcodaaDoor.F
end
section
namespace Go.Proofs.YtkefbljogjcodaaDoor.F
open Go.RowKit Go.Proofs.YtkefbljogjcodaaDoorW.PrintWords Go.Proofs.YtkefbljogjcodaaDoorW.PrintLast Go.Proofs.YtkefbljogjcodaaDoorW.PrintMore
set_option linter.unusedVariables false
set_option linter.unusedSimpArgs false
abbrev Sp := S26
deriving instance DecidableEq for S26
instance : DecidableEq Sp := inferInstanceAs (DecidableEq S26)
def sizeS (l : List Sp) : Nat := (l.map (fun s => s.f2.size)).sum
theorem rdS_at {pre r : List Sp} {c : Sp} {i : Int} (h : i = pre.length) : rd_T26 (pre ++ c :: r) i = c := by
  subst h
  unfold rd_T26
  simp [List.getD_eq_getElem?_getD]
end Go.Proofs.YtkefbljogjcodaaDoor.F
end
section
namespace Go.Proofs.YtkefbljogjcodaaDoor.F
open Go.RowKit Go.Proofs.YtkefbljogjcodaaDoorW.PrintWords Go.Proofs.YtkefbljogjcodaaDoorW.PrintLast Go.Proofs.YtkefbljogjcodaaDoorW.PrintMore
set_option linter.unusedVariables false
set_option linter.unusedSimpArgs false
def isRune (r : Int) : Prop := (0 ≤ r ∧ r < 55296) ∨ (57344 ≤ r ∧ r ≤ 1114111)
def enc1 (r : Int) : List Int :=
  if r < 128 then [r] else if r < 2048 then [192 + r / 64, 128 + r % 64]
  else if r < 65536 then [224 + r / 4096, 128 + r / 64 % 64, 128 + r % 64]
  else [240 + r / 262144, 128 + r / 4096 % 64, 128 + r / 64 % 64, 128 + r % 64]
def encB (l : List Int) : List Int := l.flatMap enc1
def encT (l : List Int) : ByteArray := strOfNums (encB l)
theorem enc1_length (r : Int) : 1 ≤ (enc1 r).length ∧ (enc1 r).length ≤ 4 := by
  unfold enc1
  split
  · simp
  · split
    · simp
    · split <;> simp
theorem encB_cons (r : Int) (l : List Int) : encB (r :: l) = enc1 r ++ encB l := by simp [encB]
theorem encB_append (a b : List Int) : encB (a ++ b) = encB a ++ encB b := by simp [encB]
theorem encB_length (l : List Int) : l.length ≤ (encB l).length ∧ (encB l).length ≤ 4 * l.length := by
  induction l with
  | nil => simp [encB]
  | cons r l ih =>
    have := enc1_length r
    rw [encB_cons]
    simp
    omega
theorem strOfNums_append (a b : List Int) : strOfNums (a ++ b) = strOfNums a ++ strOfNums b := by
  apply ByteArray.ext
  rw [ByteArray.data_append]
  simp [strOfNums]
theorem encT_append (a b : List Int) : encT (a ++ b) = encT a ++ encT b := by unfold encT; rw [encB_append, strOfNums_append]
theorem encT_nil : encT [] = ⟨#[]⟩ := rfl
theorem encT_size (l : List Int) : l.length ≤ (encT l).size ∧ (encT l).size ≤ 4 * l.length := by
  unfold encT
  rw [strOfNums_size]
  exact encB_length l
theorem size_is (r : Int) (h : isRune r) : Ev (fun k => epitomeref01_size.f k r) ((enc1 r).length : Int) := by
  have hj : Ev (fun k => epitomeref01_size.j0 k r false) ((enc1 r).length : Int) := by
    refine Ev.step (f := fun _ => some ((enc1 r).length : Int)) (fun k => ?_) (Ev.now _)
    rw [epitomeref01_size.j0, if_neg (by simp)]
    unfold enc1
    split
    · rfl
    · split
      · rfl
      · split <;> rfl
  unfold epitomeref01_size.f
  unfold isRune at h
  refine ev_if_neg (by omega) (ev_if_neg (by omega) ?_)
  by_cases h1 : r ≥ 55296
  · refine ev_if_pos h1 ?_
    rw [show decide (r ≤ 57343) = false by simp; omega]
    exact hj
  · exact ev_if_neg h1 hj
theorem refOf_loop (l : List Int) (hl : l.length ≤ 4398046511104) (hr : ∀ r ∈ l, isRune r) : ∀ (r pre acc : List Int), l = pre ++ r → acc.length ≤ 4 * pre.length →
    Ev (fun k => epitomeref01_Of.l0 k l acc (pre.length : Int)) (strOfNums (acc ++ encB r))
  | [], pre, acc, h, ha => by
    refine Ev.step (f := fun _ => some (strOfNums acc)) (fun k => ?_) (by simpa [encB] using Ev.now (strOfNums acc))
    rw [epitomeref01_Of.l0, if_neg (by subst h; simp)]
  | t :: r, pre, acc, h, ha => by
    have hlt : (pre.length : Int) < (l.length : Int) := by subst h; simp <;> omega
    have ht : isRune t := hr t (by rw [h]; simp)
    have hrd : rd l (pre.length : Int) = t := by subst h; unfold rd; simp [List.getD_eq_getElem?_getD]
    have hpl : pre.length < 4398046511104 := by omega
    have ht' := ht
    unfold isRune at ht'
    have w0 : wrap64 t = t := w64 (by omega) (by omega)
    have hz := size_is t ht
    have e64 : Int.tdiv t 64 = t / 64 := Int.tdiv_eq_ediv_of_nonneg (by omega)
    have e4096 : Int.tdiv t 4096 = t / 4096 := Int.tdiv_eq_ediv_of_nonneg (by omega)
    have e262144 : Int.tdiv t 262144 = t / 262144 := Int.tdiv_eq_ediv_of_nonneg (by omega)
    have m64 : Int.tmod t 64 = t % 64 := Int.tmod_eq_emod_of_nonneg (by omega)
    have w1 : wrap64 ((pre.length : Int) + 1) = ((pre ++ [t]).length : Int) := by rw [w64 (by omega) (by omega)]; simp
    have next : ∀ ys : List Int, ys = enc1 t → Ev (fun k => epitomeref01_Of.l0 k l (acc ++ ys) (wrap64 ((pre.length : Int) + 1))) (strOfNums (acc ++ encB (t :: r))) := by
      intro ys hy
      have := refOf_loop l hl hr r (pre ++ [t]) (acc ++ ys) (by simp [h]) (by have := enc1_length t; rw [hy]; simp <;> omega)
      rw [w1, encB_cons, ← List.append_assoc, ← hy]
      exact this
    refine Ev.step (f := fun k => _) (fun k => by rw [epitomeref01_Of.l0, if_pos hlt, if_pos (by omega), hrd, w0]) ?_
    refine Ev.bind hz ?_
    by_cases c1 : t < 128
    · have hy : enc1 t = [t] := by unfold enc1; rw [if_pos c1]
      refine ev_if_pos (by rw [hy]; rfl) (ev_if_pos (by omega) ?_)
      exact next _ (by rw [hy, show t % 256 = t by omega])
    · by_cases c2 : t < 2048
      · have hy : enc1 t = [192 + t / 64, 128 + t % 64] := by unfold enc1; rw [if_neg c1, if_pos c2]
        refine ev_if_neg (by rw [hy]; simp) (ev_if_pos (by rw [hy]; rfl) (ev_some rfl (ev_if_pos (by simp; omega) ?_)))
        refine next _ ?_
        rw [hy, e64, m64]
        congr 1
        · unfold wrap64; omega
        · congr 1; unfold wrap64; omega
      · by_cases c3 : t < 65536
        · have hy : enc1 t = [224 + t / 4096, 128 + t / 64 % 64, 128 + t % 64] := by unfold enc1; rw [if_neg c1, if_neg c2, if_pos c3]
          refine ev_if_neg (by rw [hy]; simp) (ev_if_neg (by rw [hy]; simp) (ev_if_pos (by rw [hy]; rfl) (ev_some rfl (ev_if_pos (by simp; omega) ?_))))
          refine next _ ?_
          have m2 : Int.tmod (wrap64 (t / 64)) 64 = t / 64 % 64 := by rw [w64 (by omega) (by omega)]; exact Int.tmod_eq_emod_of_nonneg (by omega)
          rw [hy, e4096, e64, m64, m2]
          congr 1
          · unfold wrap64; omega
          · congr 1
            · unfold wrap64; omega
            · congr 1; unfold wrap64; omega
        · have hy : enc1 t = [240 + t / 262144, 128 + t / 4096 % 64, 128 + t / 64 % 64, 128 + t % 64] := by unfold enc1; rw [if_neg c1, if_neg c2, if_neg c3]
          refine ev_if_neg (by rw [hy]; simp) (ev_if_neg (by rw [hy]; simp) (ev_if_neg (by rw [hy]; simp) (ev_if_pos (by rw [hy]; rfl) (ev_some rfl (ev_if_pos (by simp; omega) ?_)))))
          refine next _ ?_
          have m2 : Int.tmod (wrap64 (t / 64)) 64 = t / 64 % 64 := by rw [w64 (by omega) (by omega)]; exact Int.tmod_eq_emod_of_nonneg (by omega)
          have m3 : Int.tmod (wrap64 (t / 4096)) 64 = t / 4096 % 64 := by rw [w64 (by omega) (by omega)]; exact Int.tmod_eq_emod_of_nonneg (by omega)
          rw [hy, e262144, e4096, e64, m64, m2, m3]
          congr 1
          · unfold wrap64; omega
          · congr 1
            · unfold wrap64; omega
            · congr 1
              · unfold wrap64; omega
              · congr 1; unfold wrap64; omega
theorem refOf_is (l : List Int) (hl : l.length ≤ 4398046511104) (hr : ∀ r ∈ l, isRune r) : Ev (fun k => epitomeref01_Of.f k l) (encT l) := by
  unfold epitomeref01_Of.f
  exact refOf_loop l hl hr l [] [] rfl (by simp)
def alpha : List Int := [97, 98, 99, 120, 121, 233, 8364, 128512]
def fitRunes (s : ByteArray) : List Int := s.data.toList.map (fun b => alpha.getD (b.toNat % 8) 0)
theorem fitRunes_mem (s : ByteArray) : ∀ r ∈ fitRunes s, r ∈ alpha := by
  intro r hr
  unfold fitRunes at hr
  obtain ⟨b, _, rfl⟩ := List.mem_map.1 hr
  have hb : b.toNat % 8 < alpha.length := Nat.mod_lt _ (by decide)
  rw [List.getD_eq_getElem?_getD, List.getElem?_eq_getElem hb]
  exact List.getElem_mem hb
theorem alpha_rune : ∀ r ∈ alpha, isRune r := by
  intro r hr
  unfold isRune
  simp [alpha] at hr
  omega
theorem fitRunes_length (s : ByteArray) : (fitRunes s).length = s.size := by unfold fitRunes; rw [List.length_map, data_length]
theorem fit01_loop (s : ByteArray) (hs : s.size ≤ 1099511627776) : ∀ (r pre : List UInt8), s.data.toList = pre ++ r →
    Ev (fun k => epitomeref01_Fit.l0 k s (pre.map (fun b => alpha.getD (b.toNat % 8) 0)) (pre.length : Int) 97 98 99 120 121 233 8364 128512) (encT (fitRunes s))
  | [], pre, h => by
    have hz : pre.length = s.size := by rw [← data_length, h]; simp
    refine Ev.step (f := fun k => (epitomeref01_Of.f k (fitRunes s)).bind fun t => some t) (fun k => ?_) ?_
    · rw [epitomeref01_Fit.l0, if_neg (by omega)]
      unfold fitRunes
      rw [h, List.append_nil]
    · exact Ev.bind (refOf_is _ (by rw [fitRunes_length]; omega) (fun r hr => alpha_rune r (fitRunes_mem s r hr))) (Ev.now _)
  | b :: r, pre, h => by
    have hz : pre.length + (r.length + 1) = s.size := by rw [← data_length, h, List.length_append, List.length_cons]
    have hbt : bt s (pre.length : Int) = b.toNat := by
      rw [← rd_bytesOf]
      unfold rd bytesOf
      rw [h]
      simp [List.getD_eq_getElem?_getD]
    refine Ev.step (f := fun k => epitomeref01_Fit.l0 k s ((pre ++ [b]).map (fun b => alpha.getD (b.toNat % 8) 0)) ((pre ++ [b]).length : Int) 97 98 99 120 121 233 8364 128512) (fun k => ?_) (fit01_loop s hs r (pre ++ [b]) (by simp [h]))
    rw [epitomeref01_Fit.l0, if_pos (by omega), if_pos (by omega), hbt]
    have hf : fit_rune.f 97 98 99 120 121 233 8364 128512 (Int.tmod (b.toNat : Int) 8) = some (alpha.getD (b.toNat % 8) 0) := by
      unfold fit_rune.f
      rw [show (Int.tmod (b.toNat : Int) 8).toNat = b.toNat % 8 by rw [Int.tmod_eq_emod_of_nonneg (by omega)]; omega]
      have hb : b.toNat % 8 < alpha.length := Nat.mod_lt _ (by decide)
      rw [List.getD_eq_getElem?_getD, List.getElem?_eq_getElem hb]
      exact List.getElem?_eq_getElem hb
    rw [hf, Option.bind_some, if_pos (by simp; omega), w64 (by omega) (by omega)]
    simp
theorem fit01_is (s : ByteArray) (hs : s.size ≤ 1099511627776) : Ev (fun k => epitomeref01_Fit.f k s) (encT (fitRunes s)) := by
  unfold epitomeref01_Fit.f
  exact fit01_loop s hs s.data.toList [] rfl
end Go.Proofs.YtkefbljogjcodaaDoor.F
end
section
namespace Go.Proofs.YtkefbljogjcodaaDoor.F
open Go.RowKit Go.Proofs.YtkefbljogjcodaaDoorW.PrintWords Go.Proofs.YtkefbljogjcodaaDoorW.PrintLast Go.Proofs.YtkefbljogjcodaaDoorW.PrintMore
set_option linter.unusedVariables false
set_option linter.unusedSimpArgs false
inductive Un where
  | keep (n : Nat)
  | put (l : List Int)
  | drop (n : Nat)
def Un.sp : Un → Sp
  | .keep n => ⟨1, n, ⟨#[]⟩⟩
  | .put l => ⟨2, 0, encT l⟩
  | .drop n => ⟨3, n, ⟨#[]⟩⟩
def Un.cin : Un → Nat
  | .keep n => n
  | .put _ => 0
  | .drop n => n
def Un.cout : Un → Nat
  | .keep n => n
  | .put l => l.length
  | .drop _ => 0
def Un.few : Un → Prop
  | .keep n => n ≤ 63
  | .put l => l.length ≤ 6 ∧ ∀ r ∈ l, r ∈ alpha
  | .drop n => n ≤ 63
theorem kind_range (x : Int) (h : -9223372036854775808 ≤ x) (h2 : x ≤ 9223372036854775807) :
    let k := wrap64 (1 + Int.tmod (wrap64 (Int.tmod x 3 + 3)) 3); k = 1 ∨ k = 2 ∨ k = 3 := by
  intro k
  have h1 : -3 < Int.tmod x 3 := by have := Int.lt_tmod_of_pos x (show (0 : Int) < 3 by decide); omega
  have h3 : Int.tmod x 3 < 3 := Int.tmod_lt_of_pos x (by decide)
  have e : wrap64 (Int.tmod x 3 + 3) = Int.tmod x 3 + 3 := w64 (by omega) (by omega)
  have e2 : Int.tmod (Int.tmod x 3 + 3) 3 = (Int.tmod x 3 + 3) % 3 := Int.tmod_eq_emod_of_nonneg (by omega)
  have e3 : k = 1 + (Int.tmod x 3 + 3) % 3 := by
    show wrap64 _ = _
    rw [e, e2, w64 (by omega) (by omega)]
  omega
theorem many_range (x : Int) (h : -9223372036854775808 ≤ x) (h2 : x ≤ 9223372036854775807) :
    0 ≤ Int.tmod (wrap64 (Int.tmod x 7 + 7)) 7 ∧ Int.tmod (wrap64 (Int.tmod x 7 + 7)) 7 ≤ 6 := by
  have h1 : -7 < Int.tmod x 7 := by have := Int.lt_tmod_of_pos x (show (0 : Int) < 7 by decide); omega
  have h3 : Int.tmod x 7 < 7 := Int.tmod_lt_of_pos x (by decide)
  rw [w64 (by omega) (by omega), Int.tmod_eq_emod_of_nonneg (by omega)]
  omega
theorem mn_le (a b : Int) : mn a b ≤ a ∧ mn a b ≤ b ∧ (mn a b = a ∨ mn a b = b) := by
  unfold mn
  split <;> omega
theorem extract_size (s : ByteArray) (n : Nat) : (s.extract 0 n).size ≤ n := by
  rw [ByteArray.size_extract]
  omega
theorem fit04_end (l : List Sp) (m : Nat) (acc : List Sp) (i : Int) (hacc : acc.length ≤ 12) :
    Ev (fun k => epitomeref04_Fit.j1 k l (m : Int) acc i false) (acc ++ (if m = 0 then ([] : List Un) else [Un.keep m]).map Un.sp) := by
  by_cases h : m = 0
  · subst h
    refine Ev.step (f := fun _ => some acc) (fun k => ?_) (by simpa using Ev.now acc)
    rw [epitomeref04_Fit.j1, if_neg (by simp), if_neg (by simp)]
  · refine Ev.step (f := fun _ => some (acc ++ [⟨1, (m : Int), ⟨#[]⟩⟩])) (fun k => ?_) (by rw [if_neg h]; exact Ev.now _)
    rw [epitomeref04_Fit.j1, if_neg (by simp), if_pos (by omega), if_pos (by omega)]
end Go.Proofs.YtkefbljogjcodaaDoor.F
end
section
namespace Go.Proofs.YtkefbljogjcodaaDoor.F
open Go.RowKit Go.Proofs.YtkefbljogjcodaaDoorW.PrintWords Go.Proofs.YtkefbljogjcodaaDoorW.PrintLast Go.Proofs.YtkefbljogjcodaaDoorW.PrintMore
set_option linter.unusedVariables false
set_option linter.unusedSimpArgs false
theorem w64_succ (n : Nat) (h : n ≤ 4611686018427387904) : wrap64 ((n : Int) + 1) = ((n + 1 : Nat) : Int) := by
  rw [w64 (by omega) (by omega)]
  omega
end Go.Proofs.YtkefbljogjcodaaDoor.F
end
section
namespace Go.Proofs.YtkefbljogjcodaaDoor.F
open Go.RowKit Go.Proofs.YtkefbljogjcodaaDoorW.PrintWords Go.Proofs.YtkefbljogjcodaaDoorW.PrintLast Go.Proofs.YtkefbljogjcodaaDoorW.PrintMore
set_option linter.unusedVariables false
set_option linter.unusedSimpArgs false
inductive U where
  | k
  | d
  | p (r : Int)
deriving DecidableEq
def Un.ex : Un → List U
  | .keep n => List.replicate n .k
  | .put l => l.map .p
  | .drop n => List.replicate n .d
def exU (us : List Un) : List U := us.flatMap Un.ex
theorem exU_cons (u : Un) (us : List Un) : exU (u :: us) = u.ex ++ exU us := by simp [exU]
def cinU : List U → Nat
  | [] => 0
  | .p _ :: x => cinU x
  | _ :: x => cinU x + 1
def coutU : List U → Nat
  | [] => 0
  | .d :: x => coutU x
  | _ :: x => coutU x + 1
theorem cinU_append : ∀ a b : List U, cinU (a ++ b) = cinU a + cinU b
  | [], b => by simp [cinU]
  | u :: a, b => by cases u <;> simp [cinU, cinU_append a b] <;> omega
theorem coutU_append : ∀ a b : List U, coutU (a ++ b) = coutU a + coutU b
  | [], b => by simp [coutU]
  | u :: a, b => by cases u <;> simp [coutU, coutU_append a b] <;> omega
theorem cinU_un (u : Un) : cinU u.ex = u.cin := by
  cases u with
  | keep n => induction n with
    | zero => rfl
    | succ n ih => simp only [Un.ex, List.replicate_succ, cinU, Un.cin] at *; omega
  | put l => induction l with
    | nil => rfl
    | cons a l ih => simp only [Un.ex, List.map_cons, cinU, Un.cin] at *; omega
  | drop n => induction n with
    | zero => rfl
    | succ n ih => simp only [Un.ex, List.replicate_succ, cinU, Un.cin] at *; omega
theorem coutU_un (u : Un) : coutU u.ex = u.cout := by
  cases u with
  | keep n => induction n with
    | zero => rfl
    | succ n ih => simp only [Un.ex, List.replicate_succ, coutU, Un.cout] at *; omega
  | put l => induction l with
    | nil => rfl
    | cons a l ih => simp only [Un.ex, List.map_cons, coutU, Un.cout, List.length_cons] at *; omega
  | drop n => induction n with
    | zero => rfl
    | succ n ih => simp only [Un.ex, List.replicate_succ, coutU, Un.cout] at *; omega
theorem cinU_ex : ∀ us : List Un, cinU (exU us) = (us.map Un.cin).sum
  | [] => rfl
  | u :: us => by rw [exU_cons, cinU_append, cinU_un, cinU_ex us]; simp
theorem coutU_ex : ∀ us : List Un, coutU (exU us) = (us.map Un.cout).sum
  | [] => rfl
  | u :: us => by rw [exU_cons, coutU_append, coutU_un, coutU_ex us]; simp
end Go.Proofs.YtkefbljogjcodaaDoor.F
end
section
namespace Go.Proofs.YtkefbljogjcodaaDoor.F
open Go.RowKit Go.Proofs.YtkefbljogjcodaaDoorW.PrintWords Go.Proofs.YtkefbljogjcodaaDoorW.PrintLast Go.Proofs.YtkefbljogjcodaaDoorW.PrintMore
set_option linter.unusedVariables false
set_option linter.unusedSimpArgs false
def encL (l : List Int) : List UInt8 := (encB l).map (fun n => UInt8.ofNat n.toNat)
theorem encT_list (l : List Int) : (encT l).data.toList = encL l := by unfold encT encL strOfNums; simp
theorem encL_cons (r : Int) (l : List Int) : encL (r :: l) = (enc1 r).map (fun n => UInt8.ofNat n.toNat) ++ encL l := by unfold encL; rw [encB_cons, List.map_append]
theorem u8n (n : Nat) (h : n < 256) : (UInt8.ofNat n).toNat = n := by simp [UInt8.toNat_ofNat']; omega
theorem enc1_nat (m : Nat) : (enc1 (m : Int)).map (fun n => UInt8.ofNat n.toNat) =
    if m < 128 then [UInt8.ofNat m] else if m < 2048 then [UInt8.ofNat (192 + m / 64), UInt8.ofNat (128 + m % 64)]
    else if m < 65536 then [UInt8.ofNat (224 + m / 4096), UInt8.ofNat (128 + m / 64 % 64), UInt8.ofNat (128 + m % 64)]
    else [UInt8.ofNat (240 + m / 262144), UInt8.ofNat (128 + m / 4096 % 64), UInt8.ofNat (128 + m / 64 % 64), UInt8.ofNat (128 + m % 64)] := by
  unfold enc1
  by_cases h1 : m < 128
  · rw [if_pos h1, if_pos (by omega)]; simp
  · rw [if_neg h1, if_neg (by omega)]
    by_cases h2 : m < 2048
    · rw [if_pos h2, if_pos (by omega)]
      simp only [List.map_cons, List.map_nil]
      rw [show (192 + (m : Int) / 64).toNat = 192 + m / 64 by omega, show (128 + (m : Int) % 64).toNat = 128 + m % 64 by omega]
    · rw [if_neg h2, if_neg (by omega)]
      by_cases h3 : m < 65536
      · rw [if_pos h3, if_pos (by omega)]
        simp only [List.map_cons, List.map_nil]
        rw [show (224 + (m : Int) / 4096).toNat = 224 + m / 4096 by omega, show (128 + (m : Int) / 64 % 64).toNat = 128 + m / 64 % 64 by omega, show (128 + (m : Int) % 64).toNat = 128 + m % 64 by omega]
      · rw [if_neg h3, if_neg (by omega)]
        simp only [List.map_cons, List.map_nil]
        rw [show (240 + (m : Int) / 262144).toNat = 240 + m / 262144 by omega, show (128 + (m : Int) / 4096 % 64).toNat = 128 + m / 4096 % 64 by omega, show (128 + (m : Int) / 64 % 64).toNat = 128 + m / 64 % 64 by omega, show (128 + (m : Int) % 64).toNat = 128 + m % 64 by omega]
theorem decode1 (m n : Nat) (b1 b2 b3 : Nat) (h : m < 128) : Lib.decodeN n m b1 b2 b3 = (m, 1) := by unfold Lib.decodeN; rw [if_pos h]
theorem decode2 (m n : Nat) (b2 b3 : Nat) (h : ¬ m < 128) (h2 : m < 2048) (hn : 2 ≤ n) : Lib.decodeN n (192 + m / 64) (128 + m % 64) b2 b3 = (m, 2) := by
  unfold Lib.decodeN
  rw [if_neg (by omega), if_pos ⟨by omega, by omega, by omega⟩, if_pos (by omega)]
  congr 1
  omega
theorem decode3 (m n : Nat) (b3 : Nat) (h2 : ¬ m < 2048) (h3 : m < 65536) (hv : m < 55296 ∨ 57344 ≤ m) (hn : 3 ≤ n) : Lib.decodeN n (224 + m / 4096) (128 + m / 64 % 64) (128 + m % 64) b3 = (m, 3) := by
  unfold Lib.decodeN
  have e : (224 + m / 4096) % 16 * 4096 + (128 + m / 64 % 64) % 64 * 64 + (128 + m % 64) % 64 = m := by omega
  rw [if_neg (by omega), if_neg (by omega), if_pos ⟨by omega, ⟨by omega, by omega⟩, by omega, by omega⟩, e, if_pos (by omega)]
theorem decode4 (m n : Nat) (h3 : ¬ m < 65536) (hv : m ≤ 1114111) (hn : 4 ≤ n) : Lib.decodeN n (240 + m / 262144) (128 + m / 4096 % 64) (128 + m / 64 % 64) (128 + m % 64) = (m, 4) := by
  unfold Lib.decodeN
  have e : (240 + m / 262144) % 8 * 262144 + (128 + m / 4096 % 64) % 64 * 4096 + (128 + m / 64 % 64) % 64 * 64 + (128 + m % 64) % 64 = m := by omega
  rw [if_neg (by omega), if_neg (by omega), if_neg (by omega), if_pos ⟨by omega, ⟨by omega, by omega⟩, ⟨by omega, by omega⟩, by omega, by omega⟩, e, if_pos (by omega)]
theorem decodeL_enc (r : Int) (h : isRune r) (rest : List UInt8) : Lib.decodeL ((enc1 r).map (fun n => UInt8.ofNat n.toNat) ++ rest) = (r.toNat, (enc1 r).length) := by
  have hr : ∃ m : Nat, r = (m : Int) := ⟨r.toNat, by unfold isRune at h; omega⟩
  obtain ⟨m, rfl⟩ := hr
  have hv : m < 55296 ∨ (57344 ≤ m ∧ m ≤ 1114111) := by unfold isRune at h; omega
  have hlen : (enc1 (m : Int)).length = if m < 128 then 1 else if m < 2048 then 2 else if m < 65536 then 3 else 4 := by
    have := congrArg List.length (enc1_nat m)
    rw [List.length_map] at this
    rw [this]
    split
    · rfl
    · split
      · rfl
      · split <;> rfl
  rw [enc1_nat m, hlen, Lib.decodeL_N, Int.toNat_natCast]
  by_cases h1 : m < 128
  · simp only [if_pos h1]
    have := decode1 m (1 + rest.length) (((UInt8.ofNat m :: rest).getD 1 0).toNat) (((UInt8.ofNat m :: rest).getD 2 0).toNat) (((UInt8.ofNat m :: rest).getD 3 0).toNat) h1
    simp only [List.cons_append, List.nil_append, List.length_cons, List.getD_cons_zero, u8n m (by omega)]
    exact decode1 _ _ _ _ _ h1
  · simp only [if_neg h1]
    by_cases h2 : m < 2048
    · simp only [if_pos h2, List.cons_append, List.nil_append, List.length_cons, List.getD_cons_zero, List.getD_cons_succ, u8n (192 + m / 64) (by omega), u8n (128 + m % 64) (by omega)]
      exact decode2 _ _ _ _ h1 h2 (by omega)
    · simp only [if_neg h2]
      by_cases h3 : m < 65536
      · simp only [if_pos h3, List.cons_append, List.nil_append, List.length_cons, List.getD_cons_zero, List.getD_cons_succ, u8n (224 + m / 4096) (by omega), u8n (128 + m / 64 % 64) (by omega), u8n (128 + m % 64) (by omega)]
        exact decode3 _ _ _ h2 h3 (by omega) (by omega)
      · simp only [if_neg h3, List.cons_append, List.nil_append, List.length_cons, List.getD_cons_zero, List.getD_cons_succ, u8n (240 + m / 262144) (by omega), u8n (128 + m / 4096 % 64) (by omega), u8n (128 + m / 64 % 64) (by omega), u8n (128 + m % 64) (by omega)]
        exact decode4 _ _ h3 (by omega) (by omega)
def Runes (l : List Int) : Prop := ∀ r ∈ l, isRune r
theorem Runes.cons {r : Int} {l : List Int} (h : Runes (r :: l)) : isRune r ∧ Runes l := ⟨h r (by simp), fun x hx => h x (by simp [hx])⟩
theorem Runes.append {a b : List Int} (ha : Runes a) (hb : Runes b) : Runes (a ++ b) := fun x hx => (List.mem_append.1 hx).elim (ha x) (hb x)
theorem Runes.take {a : List Int} (h : Runes a) (n : Nat) : Runes (a.take n) := fun x hx => h x (List.mem_of_mem_take hx)
theorem Runes.drop {a : List Int} (h : Runes a) (n : Nat) : Runes (a.drop n) := fun x hx => h x (List.mem_of_mem_drop hx)
theorem Runes.nil : Runes [] := fun x hx => by cases hx
theorem size_none : (⟨#[]⟩ : ByteArray).size = 0 := rfl
theorem encL_ne (r : Int) (l : List Int) : encL (r :: l) ≠ [] := by
  have := enc1_length r
  intro h
  have h2 := congrArg List.length h
  rw [encL_cons, List.length_append, List.length_map, List.length_nil] at h2
  omega
theorem drop_enc (r : Int) (l : List Int) : (encL (r :: l)).drop (enc1 r).length = encL l := by
  rw [encL_cons, List.drop_left' (by simp)]
theorem validD_enc : ∀ (l : List Int), Runes l → Lib.validD (encL l) = true
  | [], _ => rfl
  | r :: l, h => by
    obtain ⟨h1, h2⟩ := h.cons
    rw [Lib.validD_step _ (encL_ne r l)]
    have hd : Lib.decodeL (encL (r :: l)) = (r.toNat, (enc1 r).length) := by rw [encL_cons]; exact decodeL_enc r h1 _
    rw [hd, drop_enc, if_neg ?_]
    · exact validD_enc l h2
    · rintro ⟨e1, e2⟩
      have e1 : r.toNat = 65533 := e1
      have e2 : (enc1 r).length = 1 := e2
      have hr : r = 65533 := by unfold isRune at h1; omega
      subst hr
      simp [enc1] at e2
theorem decode_at_enc (a : List Int) (r : Int) (b : List Int) (h : isRune r) : Utf8.decode (encT (a ++ r :: b)) (encT a).size = (r.toNat, (enc1 r).length) := by
  have hd : (encT (a ++ r :: b)).data.toList.drop (encT a).size = encL (r :: b) := by
    rw [encT_list]
    unfold encL
    rw [encB_append, List.map_append, List.drop_left']
    rw [List.length_map]
    unfold encT
    rw [strOfNums_size]
  rw [← Lib.decodeL_drop, hd, encL_cons]
  exact decodeL_enc r h _
theorem encT_snoc_size (a : List Int) (r : Int) : (encT (a ++ [r])).size = (encT a).size + (enc1 r).length := by
  unfold encT
  rw [strOfNums_size, strOfNums_size, encB_append, List.length_append]
  simp [encB]
theorem encT_lt (a : List Int) (r : Int) (b : List Int) : (encT a).size < (encT (a ++ r :: b)).size := by
  have := (enc1_length r).1
  unfold encT
  rw [strOfNums_size, strOfNums_size, encB_append, List.length_append, encB_cons, List.length_append]
  omega
theorem runeCount_from : ∀ (b a : List Int) (n : Nat), Runes b → b.length ≤ n → Lib.runeCountFrom (encT (a ++ b)) n (encT a).size = b.length
  | [], a, n, h, hn => by
    rw [Lib.runeCountFrom_end _ _ _ (by simp)]
    rfl
  | r :: b, a, 0, h, hn => by simp at hn
  | r :: b, a, n + 1, h, hn => by
    obtain ⟨h1, h2⟩ := h.cons
    rw [Lib.runeCountFrom, if_pos (encT_lt a r b), decode_at_enc a r b h1]
    have := runeCount_from b (a ++ [r]) n h2 (by simp at hn; omega)
    rw [encT_snoc_size, List.append_assoc, List.singleton_append] at this
    show 1 + Lib.runeCountFrom _ n ((encT a).size + (enc1 r).length) = _
    rw [this, List.length_cons]
    omega
theorem runeCount_enc (l : List Int) (h : Runes l) : Lib.runeCount (encT l) = l.length := by
  have := runeCount_from l [] (encT l).size h (encT_size l).1
  simpa [Lib.runeCount, encT_nil, size_none] using this
theorem runesL_from : ∀ (b a : List Int) (n : Nat), Runes b → b.length ≤ n → runesL (encT (a ++ b)) n (encT a).size = b
  | [], a, 0, h, hn => rfl
  | [], a, n + 1, h, hn => by
    rw [runesL, if_neg (by simp)]
  | r :: b, a, 0, h, hn => by simp at hn
  | r :: b, a, n + 1, h, hn => by
    obtain ⟨h1, h2⟩ := h.cons
    rw [runesL, if_pos (encT_lt a r b), decode_at_enc a r b h1]
    have := runesL_from b (a ++ [r]) n h2 (by simp at hn; omega)
    rw [encT_snoc_size, List.append_assoc, List.singleton_append] at this
    show ((r.toNat : Nat) : Int) :: runesL _ n ((encT a).size + (enc1 r).length) = _
    rw [this]
    congr 1
    unfold isRune at h1
    omega
theorem runesL_enc (l : List Int) (h : Runes l) : runesL (encT l) (encT l).size 0 = l := by
  have := runesL_from l [] (encT l).size h (encT_size l).1
  simpa [encT_nil, size_none] using this
theorem encode_nat (r : Int) (h : isRune r) : Utf8.encode r = strOfNums (enc1 r) := by
  have hv : Utf8.valid r = true := by
    unfold isRune at h
    unfold Utf8.valid
    simp
    omega
  obtain ⟨m, rfl⟩ : ∃ m : Nat, r = (m : Int) := ⟨r.toNat, by unfold isRune at h; omega⟩
  have he : strOfNums (enc1 (m : Int)) = ⟨((enc1 (m : Int)).map (fun n => UInt8.ofNat n.toNat)).toArray⟩ := rfl
  rw [he, enc1_nat m]
  unfold Utf8.encode
  simp only [hv, if_true, Int.toNat_natCast]
  by_cases h1 : m < 128
  · simp only [if_pos h1]
  · simp only [if_neg h1]
    by_cases h2 : m < 2048
    · simp only [if_pos h2]
    · simp only [if_neg h2]
      by_cases h3 : m < 65536
      · simp only [if_pos h3]
      · simp only [if_neg h3]
theorem runesBytes_from : ∀ (l : List Int) (s : ByteArray), Runes l → l.foldl (fun r n => r ++ Utf8.encode n) s = s ++ encT l
  | [], s, h => by
    show s = s ++ encT []
    rw [encT_nil]
    apply ByteArray.ext
    simp [ByteArray.data_append]
  | r :: l, s, h => by
    obtain ⟨h1, h2⟩ := h.cons
    rw [List.foldl_cons, runesBytes_from l _ h2, encode_nat r h1]
    have : encT (r :: l) = strOfNums (enc1 r) ++ encT l := by
      unfold encT
      rw [encB_cons, strOfNums_append]
    rw [this]
    apply ByteArray.ext
    simp [ByteArray.data_append]
theorem runesBytes_enc (l : List Int) (h : Runes l) : runesBytes l = encT l := by
  unfold runesBytes
  rw [runesBytes_from l _ h]
  apply ByteArray.ext
  simp [ByteArray.data_append]
theorem big_enc {l : List Int} (h : l.length ≤ 1099511627776) : (encT l).size ≤ 4398046511104 := by
  have := (encT_size l).2
  omega
theorem validStr_enc (l : List Int) (h : Runes l) (hl : l.length ≤ 1099511627776) : points_Valid.f (encT l) = some true := by
  have := big_enc hl
  exact valid_some (by omega) (by rw [encT_list]; exact validD_enc l h)
theorem count_enc (l : List Int) (h : Runes l) (hl : l.length ≤ 1099511627776) : points_Count.f (encT l) = some (l.length : Int) := by
  have := big_enc hl
  unfold points_Count.f
  rw [if_pos (by omega), encT_list, validD_enc l h, if_pos rfl, runeCount_enc l h]
theorem strRunes_enc (l : List Int) (h : Runes l) (hl : l.length ≤ 1099511627776) : str_runes.f (encT l) = some l := by
  have := big_enc hl
  unfold str_runes.f
  rw [if_pos (by omega), runesL_enc l h]
theorem runesStr_enc (l : List Int) (h : Runes l) : runes_str.f l = some (encT l) := by
  unfold runes_str.f
  rw [runesBytes_enc l h]
theorem extract_enc (a b c : List Int) : (encT (a ++ (b ++ c))).extract (encT a).size (encT (a ++ b)).size = encT b := by
  apply ByteArray.ext
  rw [ByteArray.data_extract]
  apply Array.ext'
  rw [Array.toList_extract, encT_list, encT_list]
  have h1 : (encT a).size = (encL a).length := by rw [← encT_list, data_length]
  have h2 : (encT (a ++ b)).size = (encL (a ++ b)).length := by rw [← encT_list, data_length]
  rw [h1, h2]
  unfold encL
  rw [encB_append, encB_append, encB_append, List.map_append, List.map_append, List.map_append, List.length_append]
  simp [List.extract_eq_take_drop]
end Go.Proofs.YtkefbljogjcodaaDoor.F
end
section
namespace Go.Proofs.YtkefbljogjcodaaDoor.F
open Go.RowKit Go.Proofs.YtkefbljogjcodaaDoorW.PrintWords Go.Proofs.YtkefbljogjcodaaDoorW.PrintLast Go.Proofs.YtkefbljogjcodaaDoorW.PrintMore
set_option linter.unusedVariables false
set_option linter.unusedSimpArgs false
def Un.ok : Un → Prop
  | .put l => Runes l
  | _ => True
structure Ok (us : List Un) : Prop where
  ok : ∀ u ∈ us, u.ok
  len : us.length ≤ 2097152
  cin : (us.map Un.cin).sum ≤ 1048576
  cout : (us.map Un.cout).sum ≤ 1099511627776
theorem Ok.cout_mem {us : List Un} (h : Ok us) {u : Un} (hu : u ∈ us) : u.cout ≤ 1099511627776 := by
  have h1 := h.cout
  have : u.cout ≤ (us.map Un.cout).sum := by
    clear h1 h
    induction us with
    | nil => cases hu
    | cons v us ih =>
      rw [List.map_cons, List.sum_cons]
      rcases List.mem_cons.1 hu with rfl | hu
      · omega
      · have := ih hu; omega
  omega
theorem Ok.tail {u : Un} {us : List Un} (h : Ok (u :: us)) : Ok us := by
  have h1 := h.len
  have h2 := h.cin
  have h3 := h.cout
  simp only [List.map_cons, List.sum_cons, List.length_cons] at h1 h2 h3
  exact ⟨fun v hv => h.ok v (by simp [hv]), by omega, by omega, by omega⟩
theorem none_valid : points_Valid.f ⟨#[]⟩ = some true := validStr_enc [] Runes.nil (by simp)
theorem spanMay_keep (n : Nat) (k3 : Int) (hk : k3 = 1 ∨ k3 = 3) (h : n ≤ 1048576) : Ev (fun k => span_May.f k k3 (n : Int) ⟨#[]⟩) 0 := by
  have hv := none_valid
  have hn : (⟨#[]⟩ : ByteArray).toList = [] := by rw [ByteArray.toList_eq]
  have hd : decide ((n : Int) > 1048576) = false := by simp; omega
  have j2 : Ev (fun k => span_May.j2 k false k3 (n : Int) ⟨#[]⟩) 0 := by
    refine Ev.step (f := fun _ => some 0) (fun k => ?_) (Ev.now _)
    rw [span_May.j2, if_neg (by simp), hv]
    rfl
  have j1 : ∀ b, Ev (fun k => span_May.j1 k false k3 (n : Int) ⟨#[]⟩ true b) 0 := by
    intro b
    refine Ev.step (f := fun k => span_May.j2 k false k3 (n : Int) ⟨#[]⟩) (fun k => ?_) j2
    rw [span_May.j1, if_neg (by simp), if_pos rfl, hn]
    rfl
  have j0 : ∀ b, Ev (fun k => span_May.j0 k false k3 (n : Int) ⟨#[]⟩ true b) 0 := by
    intro b
    refine Ev.step (f := fun k => span_May.j1 k false k3 (n : Int) ⟨#[]⟩ true b) (fun k => ?_) (j1 b)
    rw [span_May.j0, if_neg (by simp), if_pos rfl]
  have hso : ∃ b, span_of.f k3 (n : Int) ⟨#[]⟩ = some (true, b, true) := by
    rcases hk with rfl | rfl
    · exact ⟨true, rfl⟩
    · exact ⟨false, rfl⟩
  obtain ⟨b, hso⟩ := hso
  unfold span_May.f
  refine ev_some hso (ev_if_pos rfl (ev_if_pos rfl (ev_if_neg (by omega) ?_)))
  rw [hd]
  exact j0 b
theorem spanMay_put (l : List Int) (hl : Runes l) (h : l.length ≤ 1099511627776) : Ev (fun k => span_May.f k 2 0 (encT l)) 0 := by
  have hv := validStr_enc l hl h
  have j2 : Ev (fun k => span_May.j2 k false 2 0 (encT l)) 0 := by
    refine Ev.step (f := fun _ => some 0) (fun k => ?_) (Ev.now _)
    rw [span_May.j2, if_neg (by simp), hv]
    rfl
  have j1 : Ev (fun k => span_May.j1 k false 2 0 (encT l) false false) 0 := by
    refine Ev.step (f := fun k => span_May.j2 k false 2 0 (encT l)) (fun k => ?_) j2
    rw [span_May.j1, if_neg (by simp), if_neg (by simp)]
  have j0 : Ev (fun k => span_May.j0 k false 2 0 (encT l) false false) 0 := by
    refine Ev.step (f := fun k => span_May.j1 k false 2 0 (encT l) false false) (fun k => ?_) j1
    rw [span_May.j0, if_neg (by simp), if_neg (by simp)]
    rfl
  unfold span_May.f
  exact ev_some (show span_of.f 2 0 (encT l) = some (false, false, true) from rfl) (ev_if_pos rfl (ev_if_neg (by simp) j0))
theorem spanMay_is (u : Un) (h : u.ok) (h1 : u.cin ≤ 1048576) (h2 : u.cout ≤ 1099511627776) : Ev (fun k => span_May.f k u.sp.f0 u.sp.f1 u.sp.f2) 0 := by
  cases u with
  | keep n => exact spanMay_keep n 1 (.inl rfl) h1
  | put l => exact spanMay_put l h h2
  | drop n => exact spanMay_keep n 3 (.inr rfl) h1
theorem spanIn_is (u : Un) : span_In.f u.sp.f0 u.sp.f1 u.sp.f2 = some (u.cin : Int) := by
  cases u <;> rfl
theorem rowSum_loop (l : List Un) (hl : l.length ≤ 2097152) (hc : (l.map Un.cin).sum ≤ 1048576) : ∀ (r pre : List Un), l = pre ++ r →
    Ev (fun k => op_row_sum.l0 k (((pre.map Un.cin).sum : Nat) : Int) (l.map Un.sp) ((l.map Un.sp).length : Int) (pre.length : Int)) (((l.map Un.cin).sum : Nat) : Int)
  | [], pre, h => by
    refine Ev.step (f := fun _ => some (((l.map Un.cin).sum : Nat) : Int)) (fun k => ?_) (Ev.now _)
    rw [op_row_sum.l0, if_neg (by subst h; simp)]
    subst h
    simp
  | u :: r, pre, h => by
    have hlt : (pre.length : Int) < ((l.map Un.sp).length : Int) := by subst h; simp <;> omega
    have hll : pre.length + (r.length + 1) = l.length := by subst h; simp
    have hrd : rd_T26 (l.map Un.sp) (pre.length : Int) = u.sp := by
      rw [h, List.map_append, List.map_cons]
      exact rdS_at (by simp)
    have hs : (l.map Un.cin).sum = (pre.map Un.cin).sum + (u.cin + (r.map Un.cin).sum) := by rw [h]; simp
    have ih := rowSum_loop l hl hc r (pre ++ [u]) (by simp [h])
    refine Ev.step (fun k => ?_) ih
    rw [op_row_sum.l0, if_pos hlt, if_pos (by omega), if_pos hlt, hrd, spanIn_is, Option.bind_some, w64_succ _ (by omega), w64 (by omega) (by omega)]
    simp
theorem opIn_is {us : List Un} (h : Ok us) : Ev (fun k => op_In.f k (us.map Un.sp)) (((us.map Un.cin).sum : Nat) : Int) := by
  unfold op_In.f op_row_sum.f
  have := rowSum_loop us h.len h.cin us [] rfl
  exact Ev.bind (by simpa using this) (Ev.now _)
theorem opMay_loop (l : List Un) (hl : Ok l) : ∀ (r pre : List Un), l = pre ++ r →
    Ev (fun k => op_May.l0 k (l.map Un.sp) (l.map Un.sp) ((l.map Un.sp).length : Int) (pre.length : Int)) 0
  | [], pre, h => by
    have hci := hl.cin
    refine Ev.step (f := fun k => _) (fun k => by rw [op_May.l0, if_neg (by subst h; simp)]) ?_
    refine Ev.bind (opIn_is hl) ?_
    exact ev_if_neg (by omega) (Ev.now 0)
  | u :: r, pre, h => by
    have hlt : (pre.length : Int) < ((l.map Un.sp).length : Int) := by subst h; simp <;> omega
    have hll : pre.length + (r.length + 1) = l.length := by subst h; simp
    have hle := hl.len
    have hco := hl.cout
    have hci := hl.cin
    have hrd : rd_T26 (l.map Un.sp) (pre.length : Int) = u.sp := by
      rw [h, List.map_append, List.map_cons]
      exact rdS_at (by simp)
    have hs : (l.map Un.cout).sum = (pre.map Un.cout).sum + (u.cout + (r.map Un.cout).sum) := by rw [h]; simp
    have hs2 : (l.map Un.cin).sum = (pre.map Un.cin).sum + (u.cin + (r.map Un.cin).sum) := by rw [h]; simp
    have ih := opMay_loop l hl r (pre ++ [u]) (by simp [h])
    refine Ev.step (f := fun k => _) (fun k => by rw [op_May.l0, if_pos hlt, if_pos (by omega), if_pos hlt, hrd, w64_succ _ (by omega)]) ?_
    refine Ev.bind (spanMay_is u (hl.ok u (by rw [h]; simp)) (by omega) (by omega)) (ev_if_pos rfl ?_)
    simpa using ih
theorem opMay_is {us : List Un} (h : Ok us) : Ev (fun k => op_May.f k (us.map Un.sp)) 0 := by
  unfold op_May.f
  exact opMay_loop us h us [] rfl
end Go.Proofs.YtkefbljogjcodaaDoor.F
end
section
namespace Go.Proofs.YtkefbljogjcodaaDoor.F
open Go.RowKit Go.Proofs.YtkefbljogjcodaaDoorW.PrintWords Go.Proofs.YtkefbljogjcodaaDoorW.PrintLast Go.Proofs.YtkefbljogjcodaaDoorW.PrintMore
set_option linter.unusedVariables false
set_option linter.unusedSimpArgs false
def fullU : Un → Bool
  | .keep n => n != 0
  | .put l => l != []
  | .drop n => n != 0
def RunesU (y : List U) : Prop := ∀ r, U.p r ∈ y → isRune r
theorem RunesU.append {a b : List U} (ha : RunesU a) (hb : RunesU b) : RunesU (a ++ b) := fun r h => (List.mem_append.1 h).elim (ha r) (hb r)
theorem RunesU.tail {t : U} {y : List U} (h : RunesU (t :: y)) : RunesU y := fun r hr => h r (by simp [hr])
theorem RunesU.put {l : List Int} (h : Runes l) : RunesU (l.map .p) := by
  intro r hr
  obtain ⟨x, hx, e⟩ := List.mem_map.1 hr
  injection e with e
  rw [← e]
  exact h x hx
theorem runesU_ex : ∀ us : List Un, (∀ u ∈ us, u.ok) → RunesU (exU us)
  | [], _ => fun r h => by cases h
  | u :: us, h => by
    rw [exU_cons]
    refine RunesU.append ?_ (runesU_ex us (fun v hv => h v (by simp [hv])))
    cases u with
    | keep n => intro r hr; have := List.eq_of_mem_replicate hr; cases this
    | put l => exact RunesU.put (h (.put l) (by simp))
    | drop n => intro r hr; have := List.eq_of_mem_replicate hr; cases this
end Go.Proofs.YtkefbljogjcodaaDoor.F
end
section
namespace Go.Proofs.YtkefbljogjcodaaDoor.F
open Go.RowKit Go.Proofs.YtkefbljogjcodaaDoorW.PrintWords Go.Proofs.YtkefbljogjcodaaDoorW.PrintLast Go.Proofs.YtkefbljogjcodaaDoorW.PrintMore
set_option linter.unusedVariables false
set_option linter.unusedSimpArgs false
def app : List U → List Int → List Int
  | [], _ => []
  | .p r :: x, t => r :: app x t
  | .k :: x, c :: t => c :: app x t
  | .d :: x, _ :: t => app x t
  | .k :: _, [] => []
  | .d :: _, [] => []
theorem app_put (l : List Int) (x : List U) (t : List Int) : app (l.map .p ++ x) t = l ++ app x t := by
  induction l with
  | nil => rfl
  | cons r l ih => rw [List.map_cons, List.cons_append, app, ih, List.cons_append]
theorem app_keep : ∀ (n : Nat) (x : List U) (t : List Int), n ≤ t.length → app (List.replicate n .k ++ x) t = t.take n ++ app x (t.drop n)
  | 0, x, t, _ => by simp
  | n + 1, x, [], h => by simp at h
  | n + 1, x, c :: t, h => by
    rw [List.replicate_succ, List.cons_append, app, app_keep n x t (by simpa using h)]
    rfl
theorem app_drop : ∀ (n : Nat) (x : List U) (t : List Int), n ≤ t.length → app (List.replicate n .d ++ x) t = app x (t.drop n)
  | 0, x, t, _ => by simp
  | n + 1, x, [], h => by simp at h
  | n + 1, x, c :: t, h => by
    rw [List.replicate_succ, List.cons_append, app, app_drop n x t (by simpa using h)]
    rfl
theorem app_runes : ∀ (x : List U) (t : List Int), RunesU x → Runes t → Runes (app x t)
  | [], _, _, _ => Runes.nil
  | .p r :: x, t, hx, ht => by
    intro z hz
    rw [app] at hz
    rcases List.mem_cons.1 hz with rfl | hz
    · exact hx z (by simp)
    · exact app_runes x t hx.tail ht z hz
  | .k :: x, c :: t, hx, ht => by
    intro z hz
    rw [app] at hz
    rcases List.mem_cons.1 hz with rfl | hz
    · exact ht z (by simp)
    · exact app_runes x t hx.tail (Runes.cons ht).2 z hz
  | .d :: x, c :: t, hx, ht => by
    rw [app]
    exact app_runes x t hx.tail (Runes.cons ht).2
  | .k :: _, [], _, _ => Runes.nil
  | .d :: _, [], _, _ => Runes.nil
theorem app_length : ∀ (x : List U) (t : List Int), cinU x = t.length → (app x t).length = coutU x
  | [], _, _ => rfl
  | .p r :: x, t, h => by rw [app, List.length_cons, app_length x t h]; rfl
  | .k :: x, c :: t, h => by rw [app, List.length_cons, app_length x t (by simp [cinU] at h; exact h)]; rfl
  | .d :: x, c :: t, h => by rw [app, app_length x t (by simp [cinU] at h; exact h)]; rfl
  | .k :: _, [], h => by simp [cinU] at h
  | .d :: _, [], h => by simp [cinU] at h
theorem fitRunes_runes (s : ByteArray) : Runes (fitRunes s) := fun r hr => alpha_rune r (fitRunes_mem s r hr)
theorem fit01_head (a : ByteArray) (m : Nat) (ha : a.size ≤ maxLen) (hm : m ≤ 1099511627776) :
    0 ≤ mn (a.size : Int) (m : Int) ∧ mn (a.size : Int) (m : Int) ≤ (a.size : Int) ∧ ∃ t : List Int, Runes t ∧ t.length ≤ m ∧ (∀ r ∈ t, r ∈ alpha) ∧ Ev (fun k => epitomeref01_Fit.f k (a.extract 0 (mn (a.size : Int) (m : Int)).toNat)) (encT t) := by
  have h1 := mn_le (a.size : Int) (m : Int)
  have h2 := extract_size a (mn (a.size : Int) (m : Int)).toNat
  refine ⟨by omega, by omega, fitRunes (a.extract 0 (mn (a.size : Int) (m : Int)).toNat), fitRunes_runes _, by rw [fitRunes_length]; omega, fitRunes_mem _, fit01_is _ (by omega)⟩
end Go.Proofs.YtkefbljogjcodaaDoor.F
end
section
namespace Go.Proofs.YtkefbljogjcodaaDoor.F
open Go.RowKit Go.Proofs.YtkefbljogjcodaaDoorW.PrintWords Go.Proofs.YtkefbljogjcodaaDoorW.PrintLast Go.Proofs.YtkefbljogjcodaaDoorW.PrintMore
set_option linter.unusedVariables false
set_option linter.unusedSimpArgs false
theorem apply_loop (l : List Un) (hl : Ok l) : ∀ (r pre : List Un) (t out : List Int), l = pre ++ r → (r.map Un.cin).sum = t.length → Runes t → Runes out → out.length + (r.map Un.cout).sum ≤ 1099511627776 →
    Ev (fun k => apply_To.l0 k t out (l.map Un.sp) ((l.map Un.sp).length : Int) (pre.length : Int)) (encT (out ++ app (exU r) t), 0)
  | [], pre, t, out, h, hc, ht, ho, hn => by
    refine Ev.step (f := fun _ => some (encT (out ++ app (exU []) t), 0)) (fun k => ?_) (Ev.now _)
    rw [apply_To.l0, if_neg (by subst h; simp), runesStr_enc _ ho]
    simp [exU, app]
  | u :: r, pre, t, out, h, hc, ht, ho, hn => by
    have hlt : (pre.length : Int) < ((l.map Un.sp).length : Int) := by subst h; simp <;> omega
    have hll : pre.length + (r.length + 1) = l.length := by subst h; simp
    have hle := hl.len
    have hrd : rd_T26 (l.map Un.sp) (pre.length : Int) = u.sp := by
      rw [h, List.map_append, List.map_cons]
      exact rdS_at (by simp)
    have hok := hl.ok u (by rw [h]; simp)
    have ih := fun t out => apply_loop l hl r (pre ++ [u]) t out (by simp [h])
    simp only [List.map_cons, List.sum_cons] at hc hn
    rw [exU_cons]
    cases u with
    | put p =>
      have hc : 0 + (r.map Un.cin).sum = t.length := hc
      have hn : out.length + (p.length + (r.map Un.cout).sum) ≤ 1099511627776 := hn
      have := ih t (out ++ p) (by omega) ht (Runes.append ho hok) (by simp; omega)
      rw [show (Un.put p).ex = p.map .p from rfl, app_put, ← List.append_assoc]
      refine Ev.step (fun k => ?_) this
      rw [apply_To.l0, if_pos hlt, if_pos (by omega), if_pos hlt, hrd, if_pos (show (Un.put p).sp.f0 = 2 from rfl), show (Un.put p).sp.f2 = encT p from rfl, strRunes_enc p hok (by omega), Option.bind_some, if_pos (by omega)]
      rw [show (Un.put p).sp.f1 = 0 from rfl, if_pos (by omega), if_pos (by omega), w64_succ _ (by omega)]
      simp
    | keep n =>
      have hc : n + (r.map Un.cin).sum = t.length := hc
      have hn : out.length + (n + (r.map Un.cout).sum) ≤ 1099511627776 := hn
      have := ih (t.drop n) (out ++ t.take n) (by rw [List.length_drop]; omega) (ht.drop n) (Runes.append ho (ht.take n)) (by simp; omega)
      rw [show (Un.keep n).ex = List.replicate n .k from rfl, app_keep n _ _ (by omega), ← List.append_assoc]
      refine Ev.step (fun k => ?_) this
      rw [apply_To.l0, if_pos hlt, if_pos (by omega), if_pos hlt, hrd, if_neg (show ¬ (Un.keep n).sp.f0 = 2 by simp [Un.sp]), if_pos (show (Un.keep n).sp.f0 = 1 from rfl), show (Un.keep n).sp.f1 = (n : Int) from rfl, if_pos (by omega), if_pos (by omega), Int.toNat_natCast, Option.bind_some, if_pos (by simp; omega), w64_succ _ (by omega)]
      simp
    | drop n =>
      have hc : n + (r.map Un.cin).sum = t.length := hc
      have hn : out.length + (0 + (r.map Un.cout).sum) ≤ 1099511627776 := hn
      have := ih (t.drop n) out (by rw [List.length_drop]; omega) (ht.drop n) ho (by omega)
      rw [show (Un.drop n).ex = List.replicate n .d from rfl, app_drop n _ _ (by omega)]
      refine Ev.step (fun k => ?_) this
      rw [apply_To.l0, if_pos hlt, if_pos (by omega), if_pos hlt, hrd, if_neg (show ¬ (Un.drop n).sp.f0 = 2 by simp [Un.sp]), if_neg (show ¬ (Un.drop n).sp.f0 = 1 by simp [Un.sp]), show (Un.drop n).sp.f1 = (n : Int) from rfl, if_pos (by omega), if_pos (by omega), Int.toNat_natCast, w64_succ _ (by omega)]
      simp
theorem applyTo_is {us : List Un} (h : Ok us) (t : List Int) (ht : Runes t) (hc : (us.map Un.cin).sum = t.length) : Ev (fun k => apply_To.f k (us.map Un.sp) (encT t)) (encT (app (exU us) t), 0) := by
  have hci := h.cin
  have hco := h.cout
  unfold apply_To.f
  refine Ev.bind (opMay_is h) (ev_if_pos rfl ?_)
  refine ev_some (count_enc t ht (by omega)) (ev_if_neg (by omega) ?_)
  refine Ev.bind (opIn_is h) (ev_if_pos (by omega) ?_)
  refine ev_some (strRunes_enc t ht (by omega)) ?_
  have := apply_loop us h us [] t [] rfl hc ht Runes.nil (by simpa using hco)
  simpa using this
end Go.Proofs.YtkefbljogjcodaaDoor.F
end
section
namespace Go.Proofs.YtkefbljogjcodaaDoor.F
open Go.RowKit Go.Proofs.YtkefbljogjcodaaDoorW.PrintWords Go.Proofs.YtkefbljogjcodaaDoorW.PrintLast Go.Proofs.YtkefbljogjcodaaDoorW.PrintMore
set_option linter.unusedVariables false
set_option linter.unusedSimpArgs false
def cutT (m : Nat) (s : ByteArray) : ByteArray := s.extract 0 (mn (s.size : Int) (m : Int)).toNat
theorem cutT_size (m : Nat) (s : ByteArray) : (cutT m s).size ≤ m := by
  have h1 := mn_le (s.size : Int) (m : Int)
  have h2 := extract_size s (mn (s.size : Int) (m : Int)).toNat
  unfold cutT
  omega
def cutS (m : Nat) (s : Sp) : Sp := ⟨s.f0, s.f1, cutT m s.f2⟩
end Go.Proofs.YtkefbljogjcodaaDoor.F
end
section
namespace Go.Proofs.YtkefbljogjcodaaDoor.F
open Go.RowKit Go.Proofs.YtkefbljogjcodaaDoorW.PrintWords Go.Proofs.YtkefbljogjcodaaDoorW.PrintLast Go.Proofs.YtkefbljogjcodaaDoorW.PrintMore
set_option linter.unusedVariables false
set_option linter.unusedSimpArgs false
theorem toList_inj {a b : ByteArray} (h : a.toList = b.toList) : a = b := by
  rw [ByteArray.toList_eq, ByteArray.toList_eq] at h
  apply ByteArray.ext
  exact Array.ext' h
end Go.Proofs.YtkefbljogjcodaaDoor.F
end
section
namespace Go.Proofs.YtkefbljogjcodaaDoor.F
open Go.RowKit Go.Proofs.YtkefbljogjcodaaDoorW.PrintWords Go.Proofs.YtkefbljogjcodaaDoorW.PrintLast Go.Proofs.YtkefbljogjcodaaDoorW.PrintMore
set_option linter.unusedVariables false
set_option linter.unusedSimpArgs false
def sizeD (r : Int) : Int := if r < 0 ∨ r > 1114111 ∨ (55296 ≤ r ∧ r ≤ 57343) then 0 else if r < 128 then 1 else if r < 2048 then 2 else if r < 65536 then 3 else 4
theorem sizeAny_is (r : Int) : Ev (fun k => epitomeref01_size.f k r) (sizeD r) := by
  have hj : ∀ b, (b = true ↔ (r < 0 ∨ r > 1114111 ∨ (55296 ≤ r ∧ r ≤ 57343))) → Ev (fun k => epitomeref01_size.j0 k r b) (sizeD r) := by
    intro b hb
    refine Ev.step (f := fun _ => some (sizeD r)) (fun k => ?_) (Ev.now _)
    rw [epitomeref01_size.j0]
    unfold sizeD
    cases b
    · have h : ¬ (r < 0 ∨ r > 1114111 ∨ (55296 ≤ r ∧ r ≤ 57343)) := fun e => by have := hb.2 e; cases this
      rw [if_neg (by simp), if_neg h]
      split
      · rfl
      · split
        · rfl
        · split <;> rfl
    · have h := hb.1 rfl
      rw [if_pos rfl, if_pos h]
  unfold epitomeref01_size.f
  by_cases h1 : r < 0
  · exact ev_if_pos h1 (hj true (by simp [h1]))
  · refine ev_if_neg h1 ?_
    by_cases h2 : r > 1114111
    · exact ev_if_pos h2 (hj true (by simp [h2]))
    · refine ev_if_neg h2 ?_
      by_cases h3 : r ≥ 55296
      · refine ev_if_pos h3 (hj _ ?_)
        simp
        omega
      · refine ev_if_neg h3 (hj false ?_)
        simp
        omega
def bN (s : ByteArray) (i : Nat) : Nat := (s.data.toList.getD i 0).toNat
theorem bN_lt (s : ByteArray) (i : Nat) : bN s i < 256 := by unfold bN; exact UInt8.toNat_lt _
theorem bt_bN (s : ByteArray) (i : Nat) : bt s (i : Int) = (bN s i : Int) := by
  rw [← rd_bytesOf]
  unfold rd bytesOf bN
  rw [Int.toNat_natCast, List.getD_eq_getElem?_getD, List.getD_eq_getElem?_getD, List.getElem?_map]
  cases s.data.toList[i]? <;> simp
theorem decode_bN (s : ByteArray) : Lib.decodeL s.data.toList = Lib.decodeN s.size (bN s 0) (bN s 1) (bN s 2) (bN s 3) := by
  rw [Lib.decodeL_N, data_length]
  rfl
def firstD (s : ByteArray) : Int × Int := if s.size = 0 then (0, 0) else if Lib.decodeL s.data.toList = (65533, 1) then (0, 0) else (((Lib.decodeL s.data.toList).1 : Nat), ((Lib.decodeL s.data.toList).2 : Nat))
theorem first_out (s : ByteArray) (m i : Nat) (r : Int) (hi : i ≤ m) (hs : i < s.size) (hm : m ≤ 10) (hb : bN s i / 64 ≠ 2) : Ev (fun k => epitomeref01_first.l0 k s (m : Int) r (i : Int)) (0, 0) := by
  have hl := bN_lt s i
  refine Ev.step (f := fun _ => some (0, 0)) (fun k => ?_) (Ev.now _)
  rw [epitomeref01_first.l0, if_pos (by omega), if_pos (by omega), if_pos (by omega), bt_bN, w64 (by omega) (by omega)]
  by_cases h : (bN s i : Int) < 128
  · rw [if_pos h]
  · rw [if_neg h, if_pos (by omega)]
theorem first_in (s : ByteArray) (m i : Nat) (r : Nat) (v : Int × Int) (hi : i ≤ m) (hs : i < s.size) (hm : m ≤ 10) (hr : r ≤ 1000000) (hb : bN s i / 64 = 2) (h : Ev (fun k => epitomeref01_first.l0 k s (m : Int) ((r * 64 + bN s i % 64 : Nat) : Int) ((i + 1 : Nat) : Int)) v) :
    Ev (fun k => epitomeref01_first.l0 k s (m : Int) (r : Int) (i : Int)) v := by
  have hl := bN_lt s i
  refine Ev.step (fun k => ?_) h
  have e : wrap64 (wrap64 (wrap64 ((r : Int) * 64) + (bN s i : Int)) - 128) = ((r * 64 + bN s i % 64 : Nat) : Int) := by
    rw [w64 (x := (r : Int) * 64) (by omega) (by omega), w64 (x := (r : Int) * 64 + _) (by omega) (by omega), w64 (by omega) (by omega)]
    omega
  rw [epitomeref01_first.l0, if_pos (by omega), if_pos (by omega), if_pos (by omega), bt_bN, w64 (x := (bN s i : Int)) (by omega) (by omega), if_neg (by omega), if_neg (by omega), e, w64_succ _ (by omega)]
theorem first_end (s : ByteArray) (m : Nat) (r : Int) (hm : m ≤ 10) : Ev (fun k => epitomeref01_first.l0 k s (m : Int) r ((m + 1 : Nat) : Int)) (if sizeD r = ((m + 1 : Nat) : Int) then (r, ((m + 1 : Nat) : Int)) else (0, 0)) := by
  refine Ev.step (f := fun k => _) (fun k => by rw [epitomeref01_first.l0, if_neg (by omega), w64_succ _ (by omega)]) ?_
  refine Ev.bind (sizeAny_is r) ?_
  by_cases h : sizeD r = ((m + 1 : Nat) : Int)
  · simp only [if_pos h]; exact Ev.now _
  · simp only [if_neg h]; exact Ev.now _
theorem first_j3 (s : ByteArray) (m r : Nat) (hm : m ≤ 10) (v : Int × Int) (h1 : s.size < m + 1 → v = (0, 0)) (h2 : m + 1 ≤ s.size → Ev (fun k => epitomeref01_first.l0 k s (m : Int) (r : Int) 1) v) : Ev (fun k => epitomeref01_first.j3 k s (m : Int) (r : Int)) v := by
  by_cases h : s.size < m + 1
  · refine Ev.step (f := fun _ => some v) (fun k => ?_) (Ev.now _)
    rw [epitomeref01_first.j3, w64_succ _ (by omega), if_pos (by omega), h1 h]
  · refine Ev.step (fun k => ?_) (h2 (by omega))
    rw [epitomeref01_first.j3, w64_succ _ (by omega), if_neg (by omega)]
theorem first_is (s : ByteArray) : Ev (fun k => epitomeref01_first.f k s) (firstD s) := by
  unfold epitomeref01_first.f firstD
  by_cases h0 : s.size = 0
  · rw [if_pos h0]
    exact ev_if_pos (by omega) (Ev.now _)
  rw [if_neg h0]
  refine ev_if_neg (by omega) (ev_if_pos (by omega) ?_)
  have b0 := bN_lt s 0
  have e0 : wrap64 (bt s 0) = (bN s 0 : Int) := by
    have := bt_bN s 0
    rw [show ((0 : Nat) : Int) = 0 from rfl] at this
    rw [this, w64 (by omega) (by omega)]
  rw [e0, decode_bN]
  generalize hd : Lib.decodeN s.size (bN s 0) (bN s 1) (bN s 2) (bN s 3) = d
  generalize hv : (if d = (65533, 1) then ((0 : Int), (0 : Int)) else ((d.1 : Int), (d.2 : Int))) = v
  have err : d = (65533, 1) → v = (0, 0) := fun e => by rw [← hv, if_pos e]
  have good : ∀ a b : Nat, d = (a, b) → b ≠ 1 ∨ a < 128 → v = ((a : Int), (b : Int)) := fun a b e hn => by
    rw [← hv, if_neg, e]
    rw [e]
    rintro h
    injection h with h1 h2
    omega
  unfold Lib.decodeN at hd
  -- the four ways
  have j2f : bN s 0 < 192 → Ev (fun k => epitomeref01_first.j2 k s (bN s 0 : Int) 0 (bN s 0 : Int) false) v := by
    intro h
    by_cases h1 : bN s 0 < 128
    · rw [if_pos h1] at hd
      refine Ev.step (f := fun k => epitomeref01_first.j3 k s 0 (bN s 0 : Int)) (fun k => ?_) ?_
      · rw [epitomeref01_first.j2, if_neg (by simp), if_neg (by omega)]
      · refine first_j3 s 0 _ (by omega) v (by omega) (fun _ => ?_)
        have := first_end s 0 (bN s 0 : Int) (by omega)
        rw [if_pos (by unfold sizeD; rw [if_neg (by omega), if_pos (by omega)]; rfl)] at this
        rw [good _ _ hd.symm (.inr h1)]
        exact this
    · rw [if_neg h1, if_neg (by omega), if_neg (by omega), if_neg (by omega)] at hd
      refine Ev.step (f := fun _ => some (0, 0)) (fun k => ?_) (by rw [err hd.symm]; exact Ev.now _)
      rw [epitomeref01_first.j2, if_neg (by simp), if_pos (by omega)]
  have j2t : 192 ≤ bN s 0 → bN s 0 < 224 → Ev (fun k => epitomeref01_first.j2 k s (bN s 0 : Int) 0 (bN s 0 : Int) true) v := by
    intro h h1
    rw [if_neg (by omega)] at hd
    refine Ev.step (f := fun k => epitomeref01_first.j3 k s 1 ((bN s 0 - 192 : Nat) : Int)) (fun k => ?_) ?_
    · rw [epitomeref01_first.j2, if_pos rfl, w64 (by omega) (by omega), Int.ofNat_sub h]
      rfl
    · refine first_j3 s 1 _ (by omega) v (fun hs => ?_) (fun hs => ?_)
      · rw [if_neg (by omega), if_neg (by omega), if_neg (by omega)] at hd
        exact err hd.symm
      · by_cases c1 : bN s 1 / 64 = 2
        · rw [if_pos ⟨by omega, by omega, c1⟩] at hd
          refine first_in s 1 1 _ v (by omega) (by omega) (by omega) (by omega) c1 ?_
          have := first_end s 1 (((bN s 0 - 192) * 64 + bN s 1 % 64 : Nat) : Int) (by omega)
          have e : bN s 0 % 32 * 64 + bN s 1 % 64 = (bN s 0 - 192) * 64 + bN s 1 % 64 := by omega
          rw [e] at hd
          generalize (bN s 0 - 192) * 64 + bN s 1 % 64 = r at *
          by_cases c2 : r ≥ 128
          · rw [if_pos c2] at hd
            rw [if_pos (by unfold sizeD; rw [if_neg (by omega), if_neg (by omega), if_pos (by omega)]; rfl)] at this
            rw [good _ _ hd.symm (.inl (by omega))]
            exact this
          · rw [if_neg c2] at hd
            rw [if_neg (by unfold sizeD; rw [if_neg (by omega), if_pos (by omega)]; decide)] at this
            rw [err hd.symm]
            exact this
        · rw [if_neg (fun e => c1 e.2.2), if_neg (by omega), if_neg (by omega)] at hd
          rw [err hd.symm]
          exact first_out s 1 1 _ (by omega) (by omega) (by omega) c1
  have j1t : 224 ≤ bN s 0 → bN s 0 < 240 → Ev (fun k => epitomeref01_first.j1 k s (bN s 0 : Int) 0 (bN s 0 : Int) true) v := by
    intro h h1
    rw [if_neg (by omega), if_neg (by omega)] at hd
    refine Ev.step (f := fun k => epitomeref01_first.j3 k s 2 ((bN s 0 - 224 : Nat) : Int)) (fun k => ?_) ?_
    · rw [epitomeref01_first.j1, if_pos rfl, w64 (by omega) (by omega), Int.ofNat_sub h]
      rfl
    · refine first_j3 s 2 _ (by omega) v (fun hs => ?_) (fun hs => ?_)
      · rw [if_neg (by omega), if_neg (by omega)] at hd
        exact err hd.symm
      · by_cases c1 : bN s 1 / 64 = 2
        · refine first_in s 2 1 _ v (by omega) (by omega) (by omega) (by omega) c1 ?_
          by_cases c2 : bN s 2 / 64 = 2
          · rw [if_pos ⟨by omega, ⟨by omega, c1⟩, by omega, c2⟩] at hd
            refine first_in s 2 2 _ v (by omega) (by omega) (by omega) (by omega) c2 ?_
            have := first_end s 2 ((((bN s 0 - 224) * 64 + bN s 1 % 64) * 64 + bN s 2 % 64 : Nat) : Int) (by omega)
            have e : bN s 0 % 16 * 4096 + bN s 1 % 64 * 64 + bN s 2 % 64 = ((bN s 0 - 224) * 64 + bN s 1 % 64) * 64 + bN s 2 % 64 := by omega
            rw [e] at hd
            generalize ((bN s 0 - 224) * 64 + bN s 1 % 64) * 64 + bN s 2 % 64 = r at *
            have hr : r < 65536 := by omega
            by_cases c3 : r ≥ 2048 ∧ (r < 55296 ∨ (57344 ≤ r ∧ r ≤ 1114111))
            · rw [if_pos c3] at hd
              rw [if_pos (by unfold sizeD; rw [if_neg (by omega), if_neg (by omega), if_neg (by omega), if_pos (by omega)]; rfl)] at this
              rw [good _ _ hd.symm (.inl (by omega))]
              exact this
            · rw [if_neg c3] at hd
              rw [if_neg (by unfold sizeD; split <;> (try split) <;> (try split) <;> (try split) <;> omega)] at this
              rw [err hd.symm]
              exact this
          · rw [if_neg (fun e => c2 e.2.2.2), if_neg (by omega)] at hd
            rw [err hd.symm]
            exact first_out s 2 2 _ (by omega) (by omega) (by omega) c2
        · rw [if_neg (fun e => c1 e.2.1.2), if_neg (by omega)] at hd
          rw [err hd.symm]
          exact first_out s 2 1 _ (by omega) (by omega) (by omega) c1
  have j0t : 240 ≤ bN s 0 → bN s 0 < 248 → Ev (fun k => epitomeref01_first.j0 k s (bN s 0 : Int) 0 (bN s 0 : Int) true) v := by
    intro h h1
    rw [if_neg (by omega), if_neg (by omega), if_neg (by omega)] at hd
    refine Ev.step (f := fun k => epitomeref01_first.j3 k s 3 ((bN s 0 - 240 : Nat) : Int)) (fun k => ?_) ?_
    · rw [epitomeref01_first.j0, if_pos rfl, w64 (by omega) (by omega), Int.ofNat_sub h]
      rfl
    · refine first_j3 s 3 _ (by omega) v (fun hs => ?_) (fun hs => ?_)
      · rw [if_neg (by omega)] at hd
        exact err hd.symm
      · by_cases c1 : bN s 1 / 64 = 2
        · refine first_in s 3 1 _ v (by omega) (by omega) (by omega) (by omega) c1 ?_
          by_cases c2 : bN s 2 / 64 = 2
          · refine first_in s 3 2 _ v (by omega) (by omega) (by omega) (by omega) c2 ?_
            by_cases c4 : bN s 3 / 64 = 2
            · rw [if_pos ⟨by omega, ⟨by omega, c1⟩, ⟨by omega, c2⟩, by omega, c4⟩] at hd
              refine first_in s 3 3 _ v (by omega) (by omega) (by omega) (by omega) c4 ?_
              have := first_end s 3 (((((bN s 0 - 240) * 64 + bN s 1 % 64) * 64 + bN s 2 % 64) * 64 + bN s 3 % 64 : Nat) : Int) (by omega)
              have e : bN s 0 % 8 * 262144 + bN s 1 % 64 * 4096 + bN s 2 % 64 * 64 + bN s 3 % 64 = (((bN s 0 - 240) * 64 + bN s 1 % 64) * 64 + bN s 2 % 64) * 64 + bN s 3 % 64 := by omega
              rw [e] at hd
              generalize (((bN s 0 - 240) * 64 + bN s 1 % 64) * 64 + bN s 2 % 64) * 64 + bN s 3 % 64 = r at *
              by_cases c3 : r ≥ 65536 ∧ (r < 55296 ∨ (57344 ≤ r ∧ r ≤ 1114111))
              · rw [if_pos c3] at hd
                rw [if_pos (by unfold sizeD; rw [if_neg (by omega), if_neg (by omega), if_neg (by omega), if_neg (by omega)]; rfl)] at this
                rw [good _ _ hd.symm (.inl (by omega))]
                exact this
              · rw [if_neg c3] at hd
                rw [if_neg (by unfold sizeD; split <;> (try split) <;> (try split) <;> (try split) <;> omega)] at this
                rw [err hd.symm]
                exact this
            · rw [if_neg (fun e => c4 e.2.2.2.2)] at hd
              rw [err hd.symm]
              exact first_out s 3 3 _ (by omega) (by omega) (by omega) c4
          · rw [if_neg (fun e => c2 e.2.2.1.2)] at hd
            rw [err hd.symm]
            exact first_out s 3 2 _ (by omega) (by omega) (by omega) c2
        · rw [if_neg (fun e => c1 e.2.1.2)] at hd
          rw [err hd.symm]
          exact first_out s 3 1 _ (by omega) (by omega) (by omega) c1
  have j2 : bN s 0 < 224 ∨ 248 ≤ bN s 0 → Ev (fun k => epitomeref01_first.j1 k s (bN s 0 : Int) 0 (bN s 0 : Int) false) v := by
    intro h
    by_cases h1 : 192 ≤ bN s 0
    · refine Ev.step (f := fun k => epitomeref01_first.j2 k s (bN s 0 : Int) 0 (bN s 0 : Int) (decide ((bN s 0 : Int) < 224))) (fun k => by rw [epitomeref01_first.j1, if_neg (by simp), if_pos (by omega)]) ?_
      by_cases h2 : bN s 0 < 224
      · rw [decide_eq_true (by omega)]
        exact j2t h1 h2
      · rw [decide_eq_false (by omega)]
        rw [if_neg (by omega), if_neg (by omega), if_neg (by omega), if_neg (by omega)] at hd
        refine Ev.step (f := fun _ => some (0, 0)) (fun k => ?_) (by rw [err hd.symm]; exact Ev.now _)
        rw [epitomeref01_first.j2, if_neg (by simp), if_pos (by omega)]
    · exact Ev.step (fun k => by rw [epitomeref01_first.j1, if_neg (by simp), if_neg (by omega)]) (j2f (by omega))
  have j1 : bN s 0 < 240 ∨ 248 ≤ bN s 0 → Ev (fun k => epitomeref01_first.j0 k s (bN s 0 : Int) 0 (bN s 0 : Int) false) v := by
    intro h
    by_cases h1 : 224 ≤ bN s 0
    · refine Ev.step (f := fun k => epitomeref01_first.j1 k s (bN s 0 : Int) 0 (bN s 0 : Int) (decide ((bN s 0 : Int) < 240))) (fun k => by rw [epitomeref01_first.j0, if_neg (by simp), if_pos (by omega)]) ?_
      by_cases h2 : bN s 0 < 240
      · rw [decide_eq_true (by omega)]
        exact j1t h1 h2
      · rw [decide_eq_false (by omega)]
        exact j2 (by omega)
    · exact Ev.step (fun k => by rw [epitomeref01_first.j0, if_neg (by simp), if_neg (by omega)]) (j2 (by omega))
  by_cases h1 : 240 ≤ bN s 0
  · refine ev_if_pos (by omega) ?_
    by_cases h2 : bN s 0 < 248
    · rw [decide_eq_true (by omega)]
      exact j0t h1 h2
    · rw [decide_eq_false (by omega)]
      exact j1 (by omega)
  · exact ev_if_neg (by omega) (j1 (by omega))
end Go.Proofs.YtkefbljogjcodaaDoor.F
end
section
namespace Go.Proofs.YtkefbljogjcodaaDoor.F
open Go.RowKit Go.Proofs.YtkefbljogjcodaaDoorW.PrintWords Go.Proofs.YtkefbljogjcodaaDoorW.PrintLast Go.Proofs.YtkefbljogjcodaaDoorW.PrintMore
set_option linter.unusedVariables false
set_option linter.unusedSimpArgs false
theorem u8_back (x : UInt8) {n : Nat} (h : n = x.toNat) : UInt8.ofNat n = x := by subst h; exact UInt8.ofNat_toNat
theorem decode_back (L : List UInt8) (hne : L ≠ []) (h : Lib.decodeL L ≠ (65533, 1)) : isRune ((Lib.decodeL L).1 : Int) ∧ L = (enc1 ((Lib.decodeL L).1 : Int)).map (fun n => UInt8.ofNat n.toNat) ++ L.drop (Lib.decodeL L).2 := by
  rw [Lib.decodeL_N] at h ⊢
  rcases L with _ | ⟨x0, L⟩
  · exact absurd rfl hne
  simp only [List.getD_cons_zero, List.getD_cons_succ] at h ⊢
  have q0 := UInt8.toNat_lt x0
  generalize hd : Lib.decodeN (x0 :: L).length x0.toNat (L.getD 0 0).toNat (L.getD 1 0).toNat (L.getD 2 0).toNat = d at h ⊢
  unfold Lib.decodeN at hd
  by_cases c1 : x0.toNat < 128
  · rw [if_pos c1] at hd
    rw [← hd]
    refine ⟨.inl ⟨by simp only; omega, by simp only; omega⟩, ?_⟩
    simp only
    rw [enc1_nat, if_pos c1, u8_back x0 rfl]
    rfl
  rw [if_neg c1] at hd
  by_cases c2 : x0.toNat / 32 = 6 ∧ (1 < (x0 :: L).length ∧ (L.getD 0 0).toNat / 64 = 2)
  · rw [if_pos c2] at hd
    rcases L with _ | ⟨x1, L⟩
    · simp at c2
    simp only [List.getD_cons_zero] at hd c2
    have q1 := UInt8.toNat_lt x1
    split at hd
    · next c =>
      rw [← hd]
      generalize hm : x0.toNat % 32 * 64 + x1.toNat % 64 = m at *
      refine ⟨by unfold isRune; simp only; omega, ?_⟩
      simp only
      rw [enc1_nat, if_neg (by omega), if_pos (by omega), u8_back x0 (by omega), u8_back x1 (by omega)]
      rfl
    · exact absurd hd.symm h
  rw [if_neg c2] at hd
  by_cases c3 : x0.toNat / 16 = 14 ∧ (1 < (x0 :: L).length ∧ (L.getD 0 0).toNat / 64 = 2) ∧ (2 < (x0 :: L).length ∧ (L.getD 1 0).toNat / 64 = 2)
  · rw [if_pos c3] at hd
    rcases L with _ | ⟨x1, _ | ⟨x2, L⟩⟩
    · simp at c3
    · simp at c3
    simp only [List.getD_cons_zero, List.getD_cons_succ] at hd c3
    have q1 := UInt8.toNat_lt x1
    have q2 := UInt8.toNat_lt x2
    split at hd
    · next c =>
      rw [← hd]
      generalize hm : x0.toNat % 16 * 4096 + x1.toNat % 64 * 64 + x2.toNat % 64 = m at *
      refine ⟨by unfold isRune; simp only; omega, ?_⟩
      simp only
      rw [enc1_nat, if_neg (by omega), if_neg (by omega), if_pos (by omega), u8_back x0 (by omega), u8_back x1 (by omega), u8_back x2 (by omega)]
      rfl
    · exact absurd hd.symm h
  rw [if_neg c3] at hd
  by_cases c4 : x0.toNat / 8 = 30 ∧ (1 < (x0 :: L).length ∧ (L.getD 0 0).toNat / 64 = 2) ∧ (2 < (x0 :: L).length ∧ (L.getD 1 0).toNat / 64 = 2) ∧ (3 < (x0 :: L).length ∧ (L.getD 2 0).toNat / 64 = 2)
  · rw [if_pos c4] at hd
    rcases L with _ | ⟨x1, _ | ⟨x2, _ | ⟨x3, L⟩⟩⟩
    · simp at c4
    · simp at c4
    · simp at c4
    simp only [List.getD_cons_zero, List.getD_cons_succ] at hd c4
    have q1 := UInt8.toNat_lt x1
    have q2 := UInt8.toNat_lt x2
    have q3 := UInt8.toNat_lt x3
    split at hd
    · next c =>
      rw [← hd]
      generalize hm : x0.toNat % 8 * 262144 + x1.toNat % 64 * 4096 + x2.toNat % 64 * 64 + x3.toNat % 64 = m at *
      refine ⟨by unfold isRune; simp only; omega, ?_⟩
      simp only
      rw [enc1_nat, if_neg (by omega), if_neg (by omega), if_neg (by omega), u8_back x0 (by omega), u8_back x1 (by omega), u8_back x2 (by omega), u8_back x3 (by omega)]
      rfl
    · exact absurd hd.symm h
  rw [if_neg c4] at hd
  exact absurd hd.symm h
theorem valid_ex : ∀ (n : Nat) (L : List UInt8), L.length ≤ n → Lib.validD L = true → ∃ l, Runes l ∧ L = encL l
  | _, [], _, _ => ⟨[], Runes.nil, rfl⟩
  | 0, x :: L, h, _ => by simp at h
  | n + 1, x :: L, h, hv => by
    have hne : x :: L ≠ [] := by simp
    rw [Lib.validD_step _ hne] at hv
    have hw := Lib.decodeL_width (x :: L)
    split at hv
    · cases hv
    · next hc =>
      have hb := decode_back (x :: L) hne (fun e => hc (by rw [e]; exact ⟨rfl, rfl⟩))
      obtain ⟨l, hl, e⟩ := valid_ex n _ (by rw [List.length_drop]; simp only [List.length_cons] at h ⊢; omega) hv
      refine ⟨((Lib.decodeL (x :: L)).1 : Int) :: l, ?_, ?_⟩
      · intro r hr
        rcases List.mem_cons.1 hr with rfl | hr
        · exact hb.1
        · exact hl r hr
      · rw [encL_cons, ← e]
        exact hb.2
theorem valid_text (s : ByteArray) (h : Lib.validD s.data.toList = true) : ∃ l, Runes l ∧ s = encT l := by
  obtain ⟨l, hl, e⟩ := valid_ex _ _ (Nat.le_refl _) h
  refine ⟨l, hl, ?_⟩
  apply ByteArray.ext
  apply Array.ext'
  rw [e, encT_list]
theorem tail_list (s : ByteArray) (i : Nat) : (s.extract i s.size).data.toList = s.data.toList.drop i := by
  rw [ByteArray.data_extract, Array.toList_extract, List.extract_eq_take_drop]
  rw [List.take_of_length_le]
  rw [List.length_drop, data_length]
  exact Nat.le_refl _
theorem tail_size (s : ByteArray) (i : Nat) : (s.extract i s.size).size = s.size - i := by
  rw [← data_length, tail_list, List.length_drop, data_length]
def offs (l : List Int) : List Int := (List.range (l.length + 1)).map (fun i => ((encT (l.take i)).size : Int))
theorem offs_length (l : List Int) : (offs l).length = l.length + 1 := by simp [offs]
theorem offs_snoc (l : List Int) (r : Int) : offs (l ++ [r]) = offs l ++ [((encT (l ++ [r])).size : Int)] := by
  unfold offs
  rw [show (l ++ [r]).length + 1 = (l.length + 1) + 1 by simp, List.range_succ, List.map_append]
  congr 1
  · refine List.map_congr_left (fun i hi => ?_)
    have := List.mem_range.1 hi
    rw [List.take_append_of_le_length (by omega)]
  · rw [List.map_cons, List.map_nil, List.take_of_length_le (by simp)]
theorem offs_at (l : List Int) (i : Nat) (h : i ≤ l.length) : rd (offs l) (i : Int) = ((encT (l.take i)).size : Int) := by
  unfold rd offs
  rw [Int.toNat_natCast, List.getD_eq_getElem?_getD, List.getElem?_map, List.getElem?_range (by omega)]
  rfl
theorem encT_len_take (a b : List Int) : (encT (a ++ b)).size = (encT a).size + (encT b).size := by
  rw [encT_append, ByteArray.size_append]
theorem starts_loop (l : List Int) (hl : Runes l) (hb : l.length ≤ 1099511627776) : ∀ (r pre : List Int), l = pre ++ r →
    Ev (fun k => epitomeref01_Starts.l0 k (encT l) (offs pre) ((encT pre).size : Int)) (offs l, true)
  | [], pre, h => by
    rw [List.append_nil] at h
    subst h
    refine Ev.step (f := fun _ => some (offs l, true)) (fun k => ?_) (Ev.now _)
    rw [epitomeref01_Starts.l0, if_neg (by omega)]
  | t :: r, pre, h => by
    have hbig := big_enc hb
    have hlt := encT_lt pre t r
    rw [← h] at hlt
    have hr : isRune t := hl t (by rw [h]; simp)
    have ih := starts_loop l hl hb r (pre ++ [t]) (by simp [h])
    rw [offs_snoc] at ih
    have hsn := encT_snoc_size pre t
    have e1 := enc1_length t
    have hll : pre.length + (r.length + 1) = l.length := by rw [h]; simp
    have hd : Lib.decodeL ((encT l).extract (encT pre).size (encT l).size).data.toList = (t.toNat, (enc1 t).length) := by
      rw [tail_list, Lib.decodeL_drop, h]
      exact decode_at_enc pre t r hr
    have hf : firstD ((encT l).extract (encT pre).size (encT l).size) = (t, ((enc1 t).length : Int)) := by
      unfold firstD
      rw [tail_size, if_neg (by omega), hd, if_neg]
      · have : ((t.toNat : Nat) : Int) = t := by unfold isRune at hr; omega
        rw [this]
      · intro e
        injection e with e1 e2
        have ht : t = 65533 := by unfold isRune at hr; omega
        subst ht
        simp [enc1] at e2
    refine Ev.step (f := fun k => _) (fun k => by rw [epitomeref01_Starts.l0, if_pos (by omega), if_pos (by omega), if_pos (by omega), Int.toNat_natCast]) ?_
    have hF := first_is ((encT l).extract (encT pre).size (encT l).size)
    rw [hf] at hF
    refine Ev.bind hF ?_
    refine ev_if_neg (show ¬ (((enc1 t).length : Int) = 0) by omega) (ev_if_pos (by rw [offs_length]; omega) ?_)
    rw [show wrap64 (((encT pre).size : Int) + ((enc1 t).length : Int)) = ((encT (pre ++ [t])).size : Int) by rw [w64 (by omega) (by omega)]; omega]
    exact ih
theorem starts_enc (l : List Int) (hl : Runes l) (hb : l.length ≤ 1099511627776) : Ev (fun k => epitomeref01_Starts.f k (encT l)) (offs l, true) := by
  unfold epitomeref01_Starts.f
  exact starts_loop l hl hb l [] rfl
theorem starts_bad_loop (s : ByteArray) (hs : s.size ≤ 4398046511104) : ∀ (n i : Nat) (acc : List Int), s.size ≤ i + n → i ≤ s.size → acc.length ≤ i + 1 → Lib.validD (s.data.toList.drop i) = false →
    Ev (fun k => epitomeref01_Starts.l0 k s acc (i : Int)) ([], false)
  | 0, i, acc, h1, h2, h3, hv => by
    have : s.data.toList.drop i = [] := List.drop_eq_nil_of_le (by rw [data_length]; omega)
    rw [this] at hv
    cases hv
  | n + 1, i, acc, h1, h2, h3, hv => by
    by_cases hne : s.data.toList.drop i = []
    · rw [hne] at hv
      cases hv
    have hlt : i < s.size := by
      rcases Nat.lt_or_ge i s.size with h | h
      · exact h
      · exact absurd (List.drop_eq_nil_of_le (by rw [data_length]; omega)) hne
    rw [Lib.validD_step _ hne] at hv
    have hw := Lib.decodeL_width (s.data.toList.drop i)
    refine Ev.step (f := fun k => _) (fun k => by rw [epitomeref01_Starts.l0, if_pos (by omega), if_pos (by omega), if_pos (by omega), Int.toNat_natCast]) ?_
    refine Ev.bind (first_is (s.extract i s.size)) ?_
    unfold firstD
    rw [tail_size, if_neg (by omega), tail_list]
    generalize hd : Lib.decodeL (s.data.toList.drop i) = d at *
    by_cases he : d = (65533, 1)
    · rw [if_pos he]
      exact ev_if_pos rfl (Ev.now _)
    · rw [if_neg he]
      refine ev_if_neg (show ¬ ((d.2 : Nat) : Int) = 0 by omega) (ev_if_pos (by omega) ?_)
      have hn : ¬ (d.1 = 65533 ∧ d.2 = 1) := fun e => he (Prod.ext e.1 e.2)
      rw [if_neg hn, List.drop_drop] at hv
      have hin : i + d.2 ≤ s.size := by
        rcases Nat.lt_or_ge s.size (i + d.2) with h | h
        · exfalso
          rw [List.drop_eq_nil_of_le (by rw [data_length]; omega)] at hv
          cases hv
        · exact h
      rw [show wrap64 ((i : Int) + (d.2 : Int)) = ((i + d.2 : Nat) : Int) by rw [w64 (by omega) (by omega)]; omega]
      exact starts_bad_loop s hs n (i + d.2) _ (by omega) hin (by simp; omega) hv
theorem starts_bad (s : ByteArray) (hs : s.size ≤ 4398046511104) (h : Lib.validD s.data.toList = false) : Ev (fun k => epitomeref01_Starts.f k s) ([], false) := by
  unfold epitomeref01_Starts.f
  exact starts_bad_loop s hs s.size 0 [0] (by omega) (by omega) (by simp) (by simpa using h)
theorem refValid_is (s : ByteArray) (hs : s.size ≤ 1099511627776) : Ev (fun k => epitomeref01_Valid.f k s) (Lib.validD s.data.toList) := by
  unfold epitomeref01_Valid.f
  cases h : Lib.validD s.data.toList with
  | true =>
    obtain ⟨l, hl, rfl⟩ := valid_text s h
    have := (encT_size l).1
    exact Ev.bind (starts_enc l hl (by omega)) (Ev.now _)
  | false => exact Ev.bind (starts_bad s (by omega) h) (Ev.now _)
theorem refCount_enc (l : List Int) (hl : Runes l) (hb : l.length ≤ 1099511627776) : Ev (fun k => epitomeref01_Count.f k (encT l)) (l.length : Int) := by
  unfold epitomeref01_Count.f
  refine Ev.bind (starts_enc l hl hb) ?_
  rw [offs_length, w64 (by omega) (by omega), show (((l.length + 1 : Nat) : Int) - 1) = (l.length : Int) by omega]
  exact Ev.now _
end Go.Proofs.YtkefbljogjcodaaDoor.F
end
section
namespace Go.Proofs.YtkefbljogjcodaaDoor.F
open Go.RowKit Go.Proofs.YtkefbljogjcodaaDoorW.PrintWords Go.Proofs.YtkefbljogjcodaaDoorW.PrintLast Go.Proofs.YtkefbljogjcodaaDoorW.PrintMore
set_option linter.unusedVariables false
set_option linter.unusedSimpArgs false
def spMayD (s : Sp) : Int := if s.f0 = 1 ∨ s.f0 = 3 then (if s.f1 < 0 ∨ s.f1 > 1048576 then 2 else if s.f2.toList = [] then 0 else 3) else if s.f0 = 2 then (if s.f1 = 0 then (if Lib.validD s.f2.data.toList = true then 0 else 3) else 2) else 1
theorem spanMay_all (s : Sp) (hs : s.f2.size ≤ 1099511627776) : Ev (fun k => span_May.f k s.f0 s.f1 s.f2) (spMayD s) := by
  obtain ⟨a0, a1, a2⟩ := s
  simp only at hs ⊢
  have hv : points_Valid.f a2 = some (Lib.validD a2.data.toList) := valid_some (by omega) rfl
  have j1t : ∀ x b, Ev (fun k => span_May.j1 k true a0 a1 a2 x b) 2 := by
    intro x b
    refine Ev.step (f := fun _ => some 2) (fun k => ?_) (Ev.now _)
    rw [span_May.j1, if_pos rfl]
  have j0t : ∀ x b, Ev (fun k => span_May.j0 k true a0 a1 a2 x b) 2 := by
    intro x b
    refine Ev.step (fun k => ?_) (j1t x b)
    rw [span_May.j0, if_pos rfl]
  have j2f : ∀ v, (if Lib.validD a2.data.toList = true then (0 : Int) else 3) = v → Ev (fun k => span_May.j2 k false a0 a1 a2) v := by
    rintro v rfl
    refine Ev.step (f := fun _ => some (if Lib.validD a2.data.toList = true then (0 : Int) else 3)) (fun k => ?_) (Ev.now _)
    rw [span_May.j2, if_neg (by simp), hv, Option.bind_some]
    split <;> rfl
  have takes : ∀ (k3 : Int) (b : Bool), a0 = k3 → (k3 = 1 ∨ k3 = 3) → span_of.f a0 a1 a2 = some (true, b, true) → Ev (fun k => span_May.f k a0 a1 a2) (spMayD ⟨a0, a1, a2⟩) := by
    intro k3 b e0 e1 e2
    unfold span_May.f spMayD
    simp only
    rw [if_pos (by omega)]
    refine ev_some e2 (ev_if_pos rfl (ev_if_pos rfl ?_))
    by_cases c1 : a1 < 0
    · rw [if_pos (.inl c1)]
      exact ev_if_pos c1 (j0t _ _)
    · refine ev_if_neg c1 ?_
      by_cases c2 : a1 > 1048576
      · rw [if_pos (.inr c2), decide_eq_true c2]
        exact j0t _ _
      · rw [if_neg (by omega), decide_eq_false c2]
        refine Ev.step (f := fun k => span_May.j1 k false a0 a1 a2 true b) (fun k => by rw [span_May.j0, if_neg (by simp), if_pos rfl]) ?_
        refine Ev.step (f := fun k => span_May.j2 k (a2.toList != []) a0 a1 a2) (fun k => by rw [span_May.j1, if_neg (by simp), if_pos rfl]) ?_
        by_cases c3 : a2.toList = []
        · rw [if_pos c3, show (a2.toList != ([] : List UInt8)) = false by simp [c3]]
          refine j2f 0 ?_
          have : a2.data.toList = [] := by rw [← ByteArray.toList_eq, c3]
          rw [this]
          rfl
        · rw [if_neg c3, show (a2.toList != ([] : List UInt8)) = true by simp [c3]]
          refine Ev.step (f := fun _ => some 3) (fun k => ?_) (Ev.now _)
          rw [span_May.j2, if_pos rfl]
  by_cases c1 : a0 = 1
  · subst c1
    exact takes 1 true rfl (.inl rfl) rfl
  by_cases c3 : a0 = 3
  · subst c3
    exact takes 3 false rfl (.inr rfl) rfl
  unfold span_May.f spMayD
  simp only
  rw [if_neg (by omega)]
  by_cases c2 : a0 = 2
  · subst c2
    rw [if_pos rfl]
    refine ev_some (show span_of.f 2 a1 a2 = some (false, false, true) from rfl) (ev_if_pos rfl (ev_if_neg (by simp) ?_))
    refine Ev.step (f := fun k => span_May.j1 k (a1 != 0) 2 a1 a2 false false) (fun k => by rw [span_May.j0, if_neg (by simp), if_neg (by simp)]) ?_
    by_cases c4 : a1 = 0
    · rw [if_pos c4, show (a1 != 0) = false by simp [c4]]
      refine Ev.step (fun k => ?_) (j2f _ rfl)
      rw [span_May.j1, if_neg (by simp), if_neg (by simp)]
    · rw [if_neg c4, show (a1 != 0) = true by simp [c4]]
      exact j1t _ _
  · rw [if_neg c2]
    have : span_of.f a0 a1 a2 = some (false, false, false) := by unfold span_of.f; rw [if_neg c1, if_neg c2, if_neg c3]
    exact ev_some this (ev_if_neg (by simp) (Ev.now _))
theorem refMay_all (s : Sp) (hs : s.f2.size ≤ 1099511627776) : Ev (fun k => epitomeref03_May.f k s.f0 s.f1 s.f2) (spMayD s) := by
  obtain ⟨a0, a1, a2⟩ := s
  simp only at hs ⊢
  have j1t : Ev (fun k => epitomeref03_May.j1 k true a0 a1 a2) 2 := by
    refine Ev.step (f := fun _ => some 2) (fun k => ?_) (Ev.now _)
    rw [epitomeref03_May.j1, if_pos rfl]
  have takes : (a0 = 1 ∨ a0 = 3) → Ev (fun k => epitomeref03_May.j0 k a0 true a0 a1 a2) (spMayD ⟨a0, a1, a2⟩) := by
    intro e
    refine Ev.step (f := fun k => _) (fun k => by rw [epitomeref03_May.j0, if_pos rfl]) ?_
    unfold spMayD
    simp only
    rw [if_pos e]
    by_cases c1 : a1 < 0
    · rw [if_pos (.inl c1)]
      exact ev_if_pos c1 j1t
    · refine ev_if_neg c1 ?_
      by_cases c2 : a1 > 1048576
      · rw [if_pos (.inr c2), decide_eq_true c2]
        exact j1t
      · rw [if_neg (by omega), decide_eq_false c2]
        refine Ev.step (f := fun _ => some (if a2.toList = [] then 0 else 3)) (fun k => ?_) (Ev.now _)
        rw [epitomeref03_May.j1, if_neg (by simp)]
        split <;> rfl
  unfold epitomeref03_May.f
  by_cases c1 : a0 = 1
  · refine ev_if_pos c1 ?_
    rw [show (a0 == 1) = true by simp [c1]]
    exact takes (.inl c1)
  refine ev_if_neg c1 ?_
  by_cases c3 : a0 = 3
  · rw [show (a0 == 3) = true by simp [c3]]
    exact takes (.inr c3)
  rw [show (a0 == 3) = false by simp [c3]]
  refine Ev.step (f := fun k => _) (fun k => by rw [epitomeref03_May.j0, if_neg (by simp)]) ?_
  unfold spMayD
  simp only
  rw [if_neg (by omega)]
  by_cases c2 : a0 = 2
  · rw [if_pos c2]
    refine ev_if_pos c2 ?_
    by_cases c4 : a1 = 0
    · rw [if_pos c4]
      refine ev_if_pos c4 (Ev.bind (refValid_is a2 hs) ?_)
      by_cases c5 : Lib.validD a2.data.toList = true
      · simp only [if_pos c5]
        exact Ev.now _
      · simp only [if_neg c5]
        exact Ev.now _
    · rw [if_neg c4]
      exact ev_if_neg c4 (Ev.now _)
  · rw [if_neg c2]
    exact ev_if_neg c2 (Ev.now _)
theorem spMay_un (s : Sp) (hs : s.f2.size ≤ 1099511627776) (h : spMayD s = 0) : ∃ u : Un, s = u.sp ∧ u.ok ∧ u.cin ≤ 1048576 ∧ u.cout ≤ 1048576 + s.f2.size := by
  obtain ⟨a0, a1, a2⟩ := s
  unfold spMayD at h
  simp only at h hs
  have emp : a2.toList = [] → a2 = ⟨#[]⟩ := by
    intro e
    apply toList_inj
    rw [e, ByteArray.toList_eq]
  split at h
  · next c =>
    split at h
    · omega
    · next c1 =>
      split at h
      · next c2 =>
        have := emp c2
        subst this
        obtain ⟨n, rfl⟩ : ∃ n : Nat, a1 = (n : Int) := ⟨a1.toNat, by omega⟩
        rcases c with rfl | rfl
        · exact ⟨.keep n, rfl, trivial, by show n ≤ _; omega, by show n ≤ _; omega⟩
        · exact ⟨.drop n, rfl, trivial, by show n ≤ _; omega, Nat.zero_le _⟩
      · omega
  · split at h
    · next c =>
      split at h
      · next c1 =>
        split at h
        · next c2 =>
          obtain ⟨l, hl, rfl⟩ := valid_text a2 c2
          subst c
          subst c1
          have := (encT_size l).1
          exact ⟨.put l, rfl, hl, Nat.zero_le _, by show l.length ≤ 1048576 + (encT l).size; omega⟩
        · omega
      · omega
    · omega
def opMayD : List Sp → Int
  | [] => 0
  | s :: r => if spMayD s = 0 then opMayD r else spMayD s
theorem opMay_un : ∀ (l : List Sp), (∀ s ∈ l, s.f2.size ≤ 1048576) → opMayD l = 0 → ∃ us : List Un, l = us.map Un.sp ∧ (∀ u ∈ us, u.ok) ∧ (us.map Un.cin).sum ≤ 1048576 * l.length ∧ (us.map Un.cout).sum ≤ 2097152 * l.length
  | [], _, _ => ⟨[], rfl, by simp, by simp, by simp⟩
  | s :: r, h, e => by
    rw [opMayD] at e
    have hs := h s (by simp)
    split at e
    · next c =>
      obtain ⟨u, e1, e2, e3, e4⟩ := spMay_un s (by omega) c
      obtain ⟨us, d1, d2, d3, d4⟩ := opMay_un r (fun x hx => h x (by simp [hx])) e
      refine ⟨u :: us, by rw [e1, d1]; rfl, ?_, ?_, ?_⟩
      · intro v hv
        rcases List.mem_cons.1 hv with rfl | hv
        · exact e2
        · exact d2 v hv
      · simp only [List.map_cons, List.sum_cons, List.length_cons]; omega
      · simp only [List.map_cons, List.sum_cons, List.length_cons]; omega
    · next c => exact absurd e c
theorem rowSum_big (l : List Un) (hl : l.length ≤ 2097152) (hc : (l.map Un.cin).sum ≤ 4611686018427387904) : ∀ (r pre : List Un), l = pre ++ r →
    Ev (fun k => op_row_sum.l0 k (((pre.map Un.cin).sum : Nat) : Int) (l.map Un.sp) ((l.map Un.sp).length : Int) (pre.length : Int)) (((l.map Un.cin).sum : Nat) : Int) ∧
    Ev (fun k => epitomeref04_In.l0 k (l.map Un.sp) (((pre.map Un.cin).sum : Nat) : Int) (pre.length : Int)) (((l.map Un.cin).sum : Nat) : Int)
  | [], pre, h => by
    refine ⟨Ev.step (f := fun _ => some (((l.map Un.cin).sum : Nat) : Int)) (fun k => ?_) (Ev.now _), Ev.step (f := fun _ => some (((l.map Un.cin).sum : Nat) : Int)) (fun k => ?_) (Ev.now _)⟩
    · rw [op_row_sum.l0, if_neg (by subst h; simp)]
      subst h
      simp
    · rw [epitomeref04_In.l0, if_neg (by subst h; simp)]
      subst h
      simp
  | u :: r, pre, h => by
    have hlt : (pre.length : Int) < ((l.map Un.sp).length : Int) := by subst h; simp <;> omega
    have hll : pre.length + (r.length + 1) = l.length := by subst h; simp
    have hrd : rd_T26 (l.map Un.sp) (pre.length : Int) = u.sp := by
      rw [h, List.map_append, List.map_cons]
      exact rdS_at (by simp)
    have hs : (l.map Un.cin).sum = (pre.map Un.cin).sum + (u.cin + (r.map Un.cin).sum) := by rw [h]; simp
    have ih := rowSum_big l hl hc r (pre ++ [u]) (by simp [h])
    have hin : epitomeref03_In.f u.sp.f0 u.sp.f1 u.sp.f2 = some (u.cin : Int) := by cases u <;> rfl
    refine ⟨Ev.step (fun k => ?_) ih.1, Ev.step (fun k => ?_) ih.2⟩
    · rw [op_row_sum.l0, if_pos hlt, if_pos (by omega), if_pos hlt, hrd, spanIn_is, Option.bind_some, w64_succ _ (by omega), w64 (by omega) (by omega)]
      simp
    · rw [epitomeref04_In.l0, if_pos hlt, if_pos (by omega), hrd, hin, Option.bind_some, w64_succ _ (by omega), w64 (by omega) (by omega)]
      simp
theorem refIn_is {us : List Un} (h : Ok us) : Ev (fun k => epitomeref04_In.f k (us.map Un.sp)) (((us.map Un.cin).sum : Nat) : Int) := by
  unfold epitomeref04_In.f
  have hc := h.cin
  exact (rowSum_big us h.len (by omega) us [] rfl).2
theorem may_loop (l : List Sp) (hl : l.length ≤ 2097152) (hz : ∀ s ∈ l, s.f2.size ≤ 1048576) (e : Int) (hin : opMayD l = 0 → Ev (fun k => (op_In.f k l).bind fun t104 => if t104 > 1048576 then some 4 else some 0) e ∧ Ev (fun k => (epitomeref04_In.f k l).bind fun t104 => if t104 > 1048576 then some 4 else some 0) e) (hno : opMayD l ≠ 0 → e = opMayD l) :
    ∀ (r pre : List Sp), l = pre ++ r → opMayD l = opMayD r →
    Ev (fun k => op_May.l0 k l l (l.length : Int) (pre.length : Int)) e ∧ Ev (fun k => epitomeref04_May.l0 k l (pre.length : Int)) e
  | [], pre, h, hm => by
    have := hin hm
    refine ⟨Ev.step (fun k => ?_) this.1, Ev.step (fun k => ?_) this.2⟩
    · rw [op_May.l0, if_neg (by subst h; simp)]
    · rw [epitomeref04_May.l0, if_neg (by subst h; simp)]
  | s :: r, pre, h, hm => by
    have hlt : (pre.length : Int) < (l.length : Int) := by subst h; simp <;> omega
    have hll : pre.length + (r.length + 1) = l.length := by subst h; simp
    have hrd : rd_T26 l (pre.length : Int) = s := by
      rw [h]
      exact rdS_at rfl
    have hs := hz s (by rw [h]; simp)
    by_cases c : spMayD s = 0
    · rw [opMayD, if_pos c] at hm
      have ih := may_loop l hl hz e hin hno r (pre ++ [s]) (by simp [h]) hm
      refine ⟨Ev.step (f := fun k => _) (fun k => by rw [op_May.l0, if_pos hlt, if_pos (by omega), if_pos hlt, hrd, w64_succ _ (by omega)]) ?_, Ev.step (f := fun k => _) (fun k => by rw [epitomeref04_May.l0, if_pos hlt, if_pos (by omega), hrd, w64_succ _ (by omega)]) ?_⟩
      · refine Ev.bind (spanMay_all s (by omega)) (ev_if_pos c ?_)
        simpa using ih.1
      · refine Ev.bind (refMay_all s (by omega)) (ev_if_pos c ?_)
        simpa using ih.2
    · rw [opMayD, if_neg c] at hm
      have he : e = spMayD s := by rw [hno (by rw [hm]; exact c), hm]
      subst he
      refine ⟨Ev.step (f := fun k => _) (fun k => by rw [op_May.l0, if_pos hlt, if_pos (by omega), if_pos hlt, hrd, w64_succ _ (by omega)]) ?_, Ev.step (f := fun k => _) (fun k => by rw [epitomeref04_May.l0, if_pos hlt, if_pos (by omega), hrd, w64_succ _ (by omega)]) ?_⟩
      · exact Ev.bind (spanMay_all s (by omega)) (ev_if_neg c (Ev.now _))
      · exact Ev.bind (refMay_all s (by omega)) (ev_if_neg c (Ev.now _))
theorem may_all (l : List Sp) (hl : l.length ≤ 500000) (hz : ∀ s ∈ l, s.f2.size ≤ 1048576) : ∃ e : Int, Ev (fun k => op_May.f k l) e ∧ Ev (fun k => epitomeref04_May.f k l) e ∧ (e = 0 → ∃ us, l = us.map Un.sp ∧ Ok us) := by
  unfold op_May.f epitomeref04_May.f
  by_cases h0 : opMayD l = 0
  · obtain ⟨us, e1, e2, e3, e4⟩ := opMay_un l hz h0
    have hul : us.length = l.length := by rw [e1]; simp
    have hsum := rowSum_big us (by omega) (by omega) us [] rfl
    have i1 : Ev (fun k => op_In.f k l) (((us.map Un.cin).sum : Nat) : Int) := by
      unfold op_In.f op_row_sum.f
      rw [e1]
      exact Ev.bind hsum.1 (Ev.now _)
    have i2 : Ev (fun k => epitomeref04_In.f k l) (((us.map Un.cin).sum : Nat) : Int) := by
      unfold epitomeref04_In.f
      rw [e1]
      exact hsum.2
    by_cases hb : (us.map Un.cin).sum ≤ 1048576
    · have := may_loop l (by omega) hz 0 (fun _ => ⟨Ev.bind i1 (ev_if_neg (by omega) (Ev.now _)), Ev.bind i2 (ev_if_neg (by omega) (Ev.now _))⟩) (fun h => absurd h0 h) l [] rfl rfl
      exact ⟨0, this.1, this.2, fun _ => ⟨us, e1, e2, by omega, hb, by omega⟩⟩
    · have := may_loop l (by omega) hz 4 (fun _ => ⟨Ev.bind i1 (ev_if_pos (by omega) (Ev.now _)), Ev.bind i2 (ev_if_pos (by omega) (Ev.now _))⟩) (fun h => absurd h0 h) l [] rfl rfl
      exact ⟨4, this.1, this.2, fun h => by omega⟩
  · have := may_loop l (by omega) hz (opMayD l) (fun h => absurd h h0) (fun _ => rfl) l [] rfl rfl
    exact ⟨opMayD l, this.1, this.2, fun h => absurd h h0⟩
end Go.Proofs.YtkefbljogjcodaaDoor.F
end
section
namespace Go.Proofs.YtkefbljogjcodaaDoor.F
open Go.RowKit Go.Proofs.YtkefbljogjcodaaDoorW.PrintWords Go.Proofs.YtkefbljogjcodaaDoorW.PrintLast Go.Proofs.YtkefbljogjcodaaDoorW.PrintMore
set_option linter.unusedVariables false
set_option linter.unusedSimpArgs false
theorem ref07_loop (l : List Un) (hl : Ok l) (t : List Int) (hb : t.length ≤ 1048576) : ∀ (r pre : List Un) (rest pt out : List Int), l = pre ++ r → t = pt ++ rest → (r.map Un.cin).sum = rest.length → out.length + (r.map Un.cout).sum ≤ 1099511627776 →
    Ev (fun k => epitomeref07_To.l0 k (l.map Un.sp) (encT t) (offs t) (encT out) (pt.length : Int) (pre.length : Int)) (encT (out ++ app (exU r) rest), 0)
  | [], pre, rest, pt, out, h, ht, hc, hn => by
    refine Ev.step (f := fun _ => some (encT (out ++ app (exU []) rest), 0)) (fun k => ?_) (Ev.now _)
    rw [epitomeref07_To.l0, if_neg (by subst h; simp)]
    simp [exU, app]
  | u :: r, pre, rest, pt, out, h, ht, hc, hn => by
    have hlt : (pre.length : Int) < ((l.map Un.sp).length : Int) := by subst h; simp <;> omega
    have hll : pre.length + (r.length + 1) = l.length := by subst h; simp
    have htl : pt.length + rest.length = t.length := by rw [ht]; simp
    have hle := hl.len
    have hrd : rd_T26 (l.map Un.sp) (pre.length : Int) = u.sp := by
      rw [h, List.map_append, List.map_cons]
      exact rdS_at (by simp)
    have sz := fun l : List Int => (encT_size l).2
    have so := sz out
    have ih := fun rest pt out => ref07_loop l hl t hb r (pre ++ [u]) rest pt out (by simp [h])
    simp only [List.map_cons, List.sum_cons] at hc hn
    rw [exU_cons]
    cases u with
    | put p =>
      have hc : 0 + (r.map Un.cin).sum = rest.length := hc
      have hn : out.length + (p.length + (r.map Un.cout).sum) ≤ 1099511627776 := hn
      have sp := sz p
      have := ih rest pt (out ++ p) ht (by omega) (by simp; omega)
      rw [show (Un.put p).ex = p.map .p from rfl, app_put, ← List.append_assoc]
      refine Ev.step (fun k => ?_) this
      rw [epitomeref07_To.l0, if_pos hlt, if_pos (by omega), hrd, if_pos (show (Un.put p).sp.f0 = 2 from rfl), show (Un.put p).sp.f2 = encT p from rfl, if_pos (by omega), ← encT_append, w64_succ _ (by omega)]
      simp
    | keep n =>
      have hc : n + (r.map Un.cin).sum = rest.length := hc
      have hn : out.length + (n + (r.map Un.cout).sum) ≤ 1099511627776 := hn
      have ht2 : t = (pt ++ rest.take n) ++ rest.drop n := by rw [ht]; simp
      have hpl : (pt ++ rest.take n).length = pt.length + n := by simp; omega
      have := ih (rest.drop n) (pt ++ rest.take n) (out ++ rest.take n) ht2 (by rw [List.length_drop]; omega) (by simp; omega)
      rw [show (Un.keep n).ex = List.replicate n .k from rfl, app_keep n _ _ (by omega), ← List.append_assoc]
      refine Ev.step (fun k => ?_) this
      have e1 : t.take pt.length = pt := by rw [ht, List.take_left]
      have e2 : t.take (pt.length + n) = pt ++ rest.take n := by rw [← hpl]; exact (congrArg (List.take _) ht2).trans List.take_left
      have o1 : rd (offs t) (pt.length : Int) = ((encT pt).size : Int) := by rw [offs_at t _ (by omega), e1]
      have o2 : rd (offs t) ((pt.length + n : Nat) : Int) = ((encT (pt ++ rest.take n)).size : Int) := by rw [offs_at t _ (by omega), e2]
      have hx := extract_enc pt (rest.take n) (rest.drop n)
      rw [← List.append_assoc, ← ht2] at hx
      have s1 := encT_len_take pt (rest.take n)
      have s2 := encT_len_take (pt ++ rest.take n) (rest.drop n)
      rw [← ht2] at s2
      have s3 := sz (rest.take n)
      rw [List.length_take] at s3
      rw [epitomeref07_To.l0, if_pos hlt, if_pos (by omega), hrd, if_neg (show ¬ (Un.keep n).sp.f0 = 2 by simp [Un.sp]), if_pos (show (Un.keep n).sp.f0 = 1 from rfl), show (Un.keep n).sp.f1 = (n : Int) from rfl]
      rw [show wrap64 ((pt.length : Int) + (n : Int)) = ((pt.length + n : Nat) : Int) by rw [w64 (by omega) (by omega)]; omega, o1, o2]
      rw [if_pos (by omega), if_pos (by rw [offs_length]; omega), if_pos (by omega), if_pos (by rw [offs_length]; omega), if_pos (by omega), if_pos (by omega), if_pos (by omega), Int.toNat_natCast, Int.toNat_natCast, hx, if_pos (by omega), ← encT_append, w64_succ _ (by omega), hpl]
      simp
    | drop n =>
      have hc : n + (r.map Un.cin).sum = rest.length := hc
      have hn : out.length + (0 + (r.map Un.cout).sum) ≤ 1099511627776 := hn
      have ht2 : t = (pt ++ rest.take n) ++ rest.drop n := by rw [ht]; simp
      have hpl : (pt ++ rest.take n).length = pt.length + n := by simp; omega
      have := ih (rest.drop n) (pt ++ rest.take n) out ht2 (by rw [List.length_drop]; omega) (by omega)
      rw [show (Un.drop n).ex = List.replicate n .d from rfl, app_drop n _ _ (by omega)]
      refine Ev.step (fun k => ?_) this
      rw [epitomeref07_To.l0, if_pos hlt, if_pos (by omega), hrd, if_neg (show ¬ (Un.drop n).sp.f0 = 2 by simp [Un.sp]), if_neg (show ¬ (Un.drop n).sp.f0 = 1 by simp [Un.sp]), show (Un.drop n).sp.f1 = (n : Int) from rfl]
      rw [show wrap64 ((pt.length : Int) + (n : Int)) = ((pt.length + n : Nat) : Int) by rw [w64 (by omega) (by omega)]; omega, w64_succ _ (by omega), hpl]
      simp
theorem apply_all (l : List Sp) (hl : l.length ≤ 500000) (hz : ∀ s ∈ l, s.f2.size ≤ 1048576) (a : ByteArray) (ha : a.size ≤ 1048576) : ∃ r : ByteArray × Int, Ev (fun k => apply_To.f k l a) r ∧ Ev (fun k => epitomeref07_To.f k l a) r := by
  obtain ⟨e, m1, m2, hu⟩ := may_all l hl hz
  unfold apply_To.f epitomeref07_To.f
  by_cases h0 : e = 0
  · subst h0
    obtain ⟨us, rfl, ok⟩ := hu rfl
    have hci := ok.cin
    have hco := ok.cout
    cases hv : Lib.validD a.data.toList with
    | false =>
      have hp : points_Count.f a = some (-1) := by unfold points_Count.f; rw [if_pos (by omega), if_neg (by rw [hv]; simp)]
      refine ⟨(⟨#[]⟩, 3), ?_, ?_⟩
      · exact Ev.bind m1 (ev_if_pos rfl (ev_some hp (ev_if_pos (by omega) (Ev.now _))))
      · exact Ev.bind m2 (ev_if_pos rfl (Ev.bind (starts_bad a (by omega) hv) (ev_if_neg (by simp) (Ev.now _))))
    | true =>
      obtain ⟨t, ht, rfl⟩ := valid_text a hv
      have htl := (encT_size t).1
      have hw : wrap64 (((offs t).length : Int) - 1) = (t.length : Int) := by rw [offs_length, w64 (by omega) (by omega)]; omega
      by_cases hc : (us.map Un.cin).sum = t.length
      · refine ⟨(encT (app (exU us) t), 0), ?_, ?_⟩
        · have := applyTo_is ok t ht hc
          unfold apply_To.f at this
          exact this
        · refine Ev.bind m2 (ev_if_pos rfl (Ev.bind (starts_enc t ht (by omega)) (ev_if_pos rfl ?_)))
          refine Ev.bind (refIn_is ok) ?_
          rw [hw]
          refine ev_if_pos (by omega) ?_
          have := ref07_loop us ok t (by omega) us [] t [] [] rfl rfl hc (by simpa using hco)
          exact this
      · refine ⟨(⟨#[]⟩, 5), ?_, ?_⟩
        · exact Ev.bind m1 (ev_if_pos rfl (ev_some (count_enc t ht (by omega)) (ev_if_neg (by omega) (Ev.bind (opIn_is ok) (ev_if_neg (by omega) (Ev.now _))))))
        · refine Ev.bind m2 (ev_if_pos rfl (Ev.bind (starts_enc t ht (by omega)) (ev_if_pos rfl ?_)))
          refine Ev.bind (refIn_is ok) ?_
          rw [hw]
          exact ev_if_neg (by omega) (Ev.now _)
  · exact ⟨(⟨#[]⟩, e), Ev.bind m1 (ev_if_neg h0 (Ev.now _)), Ev.bind m2 (ev_if_neg h0 (Ev.now _))⟩
theorem few07_loop (l : List Sp) (hl : l.length ≤ maxLen) : ∀ (r pre : List Sp), l = pre ++ r → pre.length ≤ 20 →
    Ev (fun k => epitomelaw07_few.l0 k l (pre.map (cutS 60)) (pre.length : Int)) ((l.take 20).map (cutS 60))
  | [], pre, h, hp => by
    rw [List.append_nil] at h
    subst h
    refine Ev.step (f := fun _ => some ((l.take 20).map (cutS 60))) (fun k => ?_) (Ev.now _)
    rw [epitomelaw07_few.l0, if_neg (by omega), List.take_of_length_le hp]
  | s :: r, pre, h, hp => by
    have hll : pre.length + (r.length + 1) = l.length := by rw [h]; simp
    by_cases h20 : pre.length = 20
    · refine Ev.step (f := fun _ => some ((l.take 20).map (cutS 60))) (fun k => ?_) (Ev.now _)
      rw [epitomelaw07_few.l0, if_pos (by omega), if_neg (by omega), h, ← h20, List.take_left]
    · have hrd : rd_T26 l (pre.length : Int) = s := by rw [h]; exact rdS_at rfl
      have h1 := mn_le (s.f2.size : Int) 60
      have ih := few07_loop l hl r (pre ++ [s]) (by simp [h]) (by simp; omega)
      refine Ev.step (fun k => ?_) ih
      rw [epitomelaw07_few.l0, if_pos (by omega), if_pos (by omega), if_pos (by omega), hrd, if_pos (by omega), if_pos (by omega), if_pos (by rw [List.length_map]; omega), w64_succ _ (by omega)]
      simp [cutS, cutT]
theorem few07_is (l : List Sp) (hl : l.length ≤ maxLen) : Ev (fun k => epitomelaw07_few.f k l) ((l.take 20).map (cutS 60)) := by
  unfold epitomelaw07_few.f
  exact few07_loop l hl l [] rfl (by simp)
end Go.Proofs.YtkefbljogjcodaaDoor.F
end
section
namespace Go.Proofs.YtkefbljogjcodaaDoor.F
open Go.RowKit Go.Proofs.YtkefbljogjcodaaDoorW.PrintWords Go.Proofs.YtkefbljogjcodaaDoorW.PrintLast Go.Proofs.YtkefbljogjcodaaDoorW.PrintMore
set_option linter.unusedVariables false
set_option linter.unusedSimpArgs false
def rowsS (w : List (List Un)) : List (List Sp) := w.map (fun us => us.map Un.sp)
theorem rowsS_length (w : List (List Un)) : (rowsS w).length = w.length := by unfold rowsS; exact List.length_map _
theorem rowsS_get {w pre r : List (List Un)} {us : List Un} (h : w = pre ++ us :: r) : (rowsS w).getD (pre.length : Int).toNat [] = us.map Un.sp := by
  rw [Int.toNat_natCast, List.getD_eq_getElem?_getD, h]
  simp [rowsS]
end Go.Proofs.YtkefbljogjcodaaDoor.F
end
section
namespace Go.Proofs.YtkefbljogjcodaaDoor.F
open Go.RowKit Go.Proofs.YtkefbljogjcodaaDoorW.PrintWords Go.Proofs.YtkefbljogjcodaaDoorW.PrintLast Go.Proofs.YtkefbljogjcodaaDoorW.PrintMore
set_option linter.unusedVariables false
set_option linter.unusedSimpArgs false
def apps : List Int → List (List Un) → List Int
  | t, [] => t
  | t, us :: r => apps (app (exU us) t) r
def AppOk : List Int → List (List Un) → Prop
  | _, [] => True
  | t, us :: r => Ok us ∧ (us.map Un.cin).sum = t.length ∧ Runes (app (exU us) t) ∧ AppOk (app (exU us) t) r
theorem apply_row (w : List (List Un)) (hw : w.length ≤ 1000000) : ∀ (r pre : List (List Un)) (t : List Int), w = pre ++ r → Runes t → AppOk t r →
    Ev (fun k => apply_All.l0 k (encT t) (rowsS w) ((rowsS w).length : Int) (pre.length : Int)) (encT (apps t r), 0)
  | [], pre, t, h, ht, _ => by
    rw [List.append_nil] at h
    subst h
    exact Ev.step (f := fun _ => some (encT t, 0)) (fun k => by rw [apply_All.l0, if_neg (by rw [rowsS_length]; omega)]) (Ev.now _)
  | us :: r, pre, t, h, ht, ⟨h1, h2, h3, h4⟩ => by
    have hll : w.length = pre.length + (r.length + 1) := by rw [h]; simp
    have hrl := rowsS_length w
    have ih := apply_row w hw r (pre ++ [us]) (app (exU us) t) (by simp [h]) h3 h4
    rw [List.length_append, List.length_singleton] at ih
    refine Ev.step (f := fun k => (apply_To.f k (us.map Un.sp) (encT t)).bind fun bt103 => if bt103.2 = 0 then apply_All.l0 k bt103.1 (rowsS w) ((rowsS w).length : Int) ((pre.length + 1 : Nat) : Int) else some ((⟨#[]⟩ : ByteArray), bt103.2)) (fun k => ?_) (Ev.bind (applyTo_is h1 t ht h2) (ev_if_pos rfl ih))
    rw [apply_All.l0, if_pos (by omega), if_pos (by omega), if_pos (by omega), w64_succ _ (by omega), ← rowsS_get h]
    rfl
theorem applyAll_is {w : List (List Un)} (hw : w.length ≤ 1000000) {t : List Int} (ht : Runes t) (hl : t.length ≤ 1099511627776) (h : AppOk t w) : Ev (fun k => apply_All.f k (encT t) (rowsS w)) (encT (apps t w), 0) := by
  have lp := apply_row w hw w [] t rfl ht h
  have j0 : Ev (fun k => apply_All.j0 k (encT t) (rowsS w) false) (encT (apps t w), 0) := Ev.step (f := fun k => apply_All.l0 k (encT t) (rowsS w) ((rowsS w).length : Int) 0) (fun k => by rw [apply_All.j0, if_neg (by simp)]) lp
  unfold apply_All.f
  by_cases h0 : ((rowsS w).length : Int) = 0
  · exact ev_if_pos h0 (ev_some (validStr_enc t ht hl) j0)
  · exact ev_if_neg h0 j0
end Go.Proofs.YtkefbljogjcodaaDoor.F
end
section
namespace Go.Proofs.YtkefbljogjcodaaDoor.F
open Go.RowKit Go.Proofs.YtkefbljogjcodaaDoorW.PrintWords Go.Proofs.YtkefbljogjcodaaDoorW.PrintLast Go.Proofs.YtkefbljogjcodaaDoorW.PrintMore
set_option linter.unusedVariables false
set_option linter.unusedSimpArgs false
def Un.fewB : Un → Prop
  | .keep n => n ≤ 1048576
  | .put l => l.length ≤ 6 ∧ ∀ r ∈ l, r ∈ alpha
  | .drop n => n ≤ 1048576
structure MadeB (us : List Un) (n : Nat) : Prop where
  few : ∀ u ∈ us, u.fewB
  len : us.length ≤ 13
  cin : (us.map Un.cin).sum = n
theorem fitB_loop (l : List Sp) (hl : l.length ≤ maxLen) (hw : ∀ x ∈ l, (Lit.int .i64 x.f0).wf = true ∧ (Lit.int .i64 x.f1).wf = true ∧ x.f2.size ≤ maxLen) :
    ∀ (r pre : List Sp) (m : Nat) (acc : List Sp), l = pre ++ r → acc.length = pre.length → pre.length ≤ 12 → m ≤ 1048576 →
      ∃ us : List Un, Ev (fun k => epitomeref04_Fit.l0 k l (m : Int) acc (pre.length : Int)) (acc ++ us.map Un.sp) ∧ (∀ u ∈ us, u.fewB) ∧ us.length + pre.length ≤ 13 ∧ (us.map Un.cin).sum = m
  | [], pre, m, acc, h, ha, hp, hm => by
    refine ⟨if m = 0 then [] else [Un.keep m], ?_, ?_, ?_, ?_⟩
    · refine Ev.step (f := fun k => epitomeref04_Fit.j1 k l (m : Int) acc (pre.length : Int) false) (fun k => ?_) (fit04_end l m acc _ (by omega))
      rw [epitomeref04_Fit.l0, if_neg (by subst h; simp)]
    · intro u hu
      by_cases h0 : m = 0
      · rw [if_pos h0] at hu; simp at hu
      · rw [if_neg h0] at hu; simp at hu; subst hu; exact hm
    · split <;> simp <;> omega
    · split <;> simp [Un.cin] <;> omega
  | x :: r, pre, m, acc, h, ha, hp, hm => by
    have hlt : (pre.length : Int) < (l.length : Int) := by subst h; simp <;> omega
    by_cases h12 : pre.length = 12
    · refine ⟨if m = 0 then [] else [Un.keep m], ?_, ?_, ?_, ?_⟩
      · refine Ev.step (f := fun k => epitomeref04_Fit.j1 k l (m : Int) acc (pre.length : Int) false) (fun k => ?_) (fit04_end l m acc _ (by omega))
        rw [epitomeref04_Fit.l0, if_pos hlt, show decide ((pre.length : Int) < 12) = false by simp; omega]
      · intro u hu
        by_cases h0 : m = 0
        · rw [if_pos h0] at hu; simp at hu
        · rw [if_neg h0] at hu; simp at hu; subst hu; exact hm
      · split <;> simp <;> omega
      · split <;> simp [Un.cin] <;> omega
    · have hx := hw x (by rw [h]; simp)
      have b0 := wf_bounds hx.1
      have b1 := wf_bounds hx.2.1
      have hrd : rd_T26 l (pre.length : Int) = x := by rw [h]; exact rdS_at rfl
      have hk := kind_range x.f0 b0.1 b0.2
      have hn := many_range x.f1 b1.1 b1.2
      have w1 : wrap64 ((pre.length : Int) + 1) = ((pre ++ [x]).length : Int) := by rw [w64 (by omega) (by omega)]; simp
      generalize hkk : wrap64 (1 + Int.tmod (wrap64 (Int.tmod x.f0 3 + 3)) 3) = kk at hk
      generalize hnn : Int.tmod (wrap64 (Int.tmod x.f1 7 + 7)) 7 = nn at hn
      have two : ∀ (m2 : Nat) (u : Un), m2 ≤ 1048576 → u.fewB → u.cin + m2 = m →
          ∃ us : List Un, Ev (fun k => epitomeref04_Fit.l0 k l (m2 : Int) (acc ++ [u.sp]) (wrap64 ((pre.length : Int) + 1))) (acc ++ us.map Un.sp) ∧ (∀ u ∈ us, u.fewB) ∧ us.length + pre.length ≤ 13 ∧ (us.map Un.cin).sum = m := by
        intro m2 u hm2 hu hc
        obtain ⟨us, e1, e2, e3, e4⟩ := fitB_loop l hl hw r (pre ++ [x]) m2 (acc ++ [u.sp]) (by simp [h]) (by simp [ha]) (by simp; omega) hm2
        refine ⟨u :: us, ?_, ?_, ?_, ?_⟩
        · rw [w1]
          simpa using e1
        · intro v hv
          rcases List.mem_cons.1 hv with rfl | hv
          · exact hu
          · exact e2 v hv
        · simp at e3 ⊢; omega
        · simp; omega
      have go : ∀ {g : Nat → Option (List Sp)} (w : List Sp), Ev g w → (∀ k, epitomeref04_Fit.j1 (k + 1) l (m : Int) acc (pre.length : Int) true = g k) → Ev (fun k => epitomeref04_Fit.l0 k l (m : Int) acc (pre.length : Int)) w := by
        intro g w hg hj
        refine Ev.step (f := fun k => epitomeref04_Fit.j1 k l (m : Int) acc (pre.length : Int) true) (fun k => ?_) (Ev.step hj hg)
        rw [epitomeref04_Fit.l0, if_pos hlt, show decide ((pre.length : Int) < 12) = true by simp; omega]
      by_cases h2 : kk = 2
      · have hmn := mn_le (x.f2.size : Int) 6
        obtain ⟨us, e1, e2⟩ := two m (Un.put (fitRunes (x.f2.extract 0 (mn (x.f2.size : Int) 6).toNat))) hm ⟨by rw [fitRunes_length]; have := extract_size x.f2 (mn (x.f2.size : Int) 6).toNat; omega, fitRunes_mem _⟩ (by simp [Un.cin])
        refine ⟨us, go _ ?_ (fun k => by rw [epitomeref04_Fit.j1, if_pos rfl, if_pos (by omega), if_pos hlt, hrd, hkk, if_pos h2, if_pos (by omega), if_pos (by omega)]), e2⟩
        refine Ev.bind (fit01_is _ (by have := extract_size x.f2 (mn (x.f2.size : Int) 6).toNat; omega)) (ev_if_pos (by omega) ?_)
        rw [h2]
        exact e1
      · have hmn := mn_le nn m
        have hmn0 : 0 ≤ mn nn m := by omega
        obtain ⟨v, hv⟩ := Int.eq_ofNat_of_zero_le hmn0
        have hw2 : wrap64 ((m : Int) - mn nn m) = ((m - v : Nat) : Int) := by rw [w64 (by omega) (by omega)]; omega
        obtain ⟨us, e1, e2⟩ := two (m - v) (if kk = 1 then Un.keep v else Un.drop v) (by omega) (by split <;> (show v ≤ 1048576; omega)) (by split <;> (show v + (m - v) = m; omega))
        refine ⟨us, go _ ?_ (fun k => by rw [epitomeref04_Fit.j1, if_pos rfl, if_pos (by omega), if_pos hlt, hrd, hkk, if_neg h2, if_pos (by omega), hnn, hw2, hv]), e2⟩
        have hsp : (⟨kk, (v : Int), ⟨#[]⟩⟩ : Sp) = (if kk = 1 then Un.keep v else Un.drop v).sp := by
          rcases hk with rfl | rfl | rfl
          · rfl
          · exact absurd rfl h2
          · rfl
        rw [hsp]
        exact e1
theorem fitB_is (l : List Sp) (hl : l.length ≤ maxLen) (hw : ∀ x ∈ l, (Lit.int .i64 x.f0).wf = true ∧ (Lit.int .i64 x.f1).wf = true ∧ x.f2.size ≤ maxLen) (n : Nat) (hn : n ≤ 1048576) :
    ∃ us, Ev (fun k => epitomeref04_Fit.f k l (n : Int)) (us.map Un.sp) ∧ MadeB us n := by
  obtain ⟨us, e1, e2, e3, e4⟩ := fitB_loop l hl hw l [] n [] rfl rfl (by simp) hn
  refine ⟨us, ?_, e2, by simpa using e3, e4⟩
  unfold epitomeref04_Fit.f
  simpa using e1
theorem cout_fewB : ∀ us : List Un, (∀ u ∈ us, u.fewB) → (us.map Un.cout).sum ≤ (us.map Un.cin).sum + 6 * us.length
  | [], _ => Nat.zero_le _
  | u :: us, h => by
    have h2 := cout_fewB us (fun v hv => h v (by simp [hv]))
    have h1 : u.cout ≤ u.cin + 6 := by
      have := h u (by simp)
      cases u with
      | keep n => show n ≤ n + 6; omega
      | put l => exact Nat.le_trans this.1 (by show 6 ≤ 0 + 6; omega)
      | drop n => exact Nat.zero_le _
    simp only [List.map_cons, List.sum_cons, List.length_cons]
    omega
structure FitB (us : List Un) (n : Nat) : Prop where
  ok : Ok us
  len : us.length ≤ 13
  cin : (us.map Un.cin).sum = n
  cinU : cinU (exU us) = n
  cout : (us.map Un.cout).sum ≤ n + 78
  coutU : coutU (exU us) = (us.map Un.cout).sum
  runes : RunesU (exU us)
theorem madeB_fit {us : List Un} {n : Nat} (h : MadeB us n) (hn : n ≤ 1048576) : FitB us n := by
  have h1 := h.len
  have h2 := cout_fewB us h.few
  have h3 := h.cin
  have ok : Ok us := ⟨fun u hu => by
    have := h.few u hu
    cases u with
    | put l => exact fun r hr => alpha_rune r (this.2 r hr)
    | keep n => trivial
    | drop n => trivial, by omega, by omega, by omega⟩
  exact ⟨ok, h1, h3, by rw [cinU_ex]; exact h3, by omega, coutU_ex us, runesU_ex us ok.ok⟩
theorem fitB (l : List Sp) (hl : l.length ≤ maxLen) (hw : ∀ x ∈ l, (Lit.int .i64 x.f0).wf = true ∧ (Lit.int .i64 x.f1).wf = true ∧ x.f2.size ≤ maxLen) (n : Nat) (hn : n ≤ 1048576) :
    ∃ us, Ev (fun k => epitomeref04_Fit.f k l (n : Int)) (us.map Un.sp) ∧ FitB us n := by
  obtain ⟨us, e, h⟩ := fitB_is l hl hw n hn
  exact ⟨us, e, madeB_fit h hn⟩
end Go.Proofs.YtkefbljogjcodaaDoor.F
end
section
namespace Go.Proofs.YtkefbljogjcodaaDoor.F
open Go.RowKit Go.Proofs.YtkefbljogjcodaaDoorW.PrintWords Go.Proofs.YtkefbljogjcodaaDoorW.PrintLast Go.Proofs.YtkefbljogjcodaaDoorW.PrintMore
set_option linter.unusedVariables false
set_option linter.unusedSimpArgs false
theorem refSpanOut_is (u : Un) (h : u.ok) (h2 : u.cout ≤ 1099511627776) : Ev (fun k => epitomeref03_Out.f k u.sp.f0 u.sp.f1 u.sp.f2) (u.cout : Int) := by
  unfold epitomeref03_Out.f
  cases u with
  | keep n => exact Ev.now _
  | put l =>
    refine ev_if_neg (by simp [Un.sp]) (ev_if_pos rfl (Ev.bind (refCount_enc l h h2) ?_))
    rw [show mx (l.length : Int) 0 = (l.length : Int) by unfold mx; rw [if_neg (by omega)]]
    exact Ev.now _
  | drop n => exact Ev.now _
theorem refOut_loop (l : List Un) (hl : Ok l) : ∀ (r pre : List Un), l = pre ++ r →
    Ev (fun k => epitomeref04_Out.l0 k (l.map Un.sp) (((pre.map Un.cout).sum : Nat) : Int) (pre.length : Int)) (((l.map Un.cout).sum : Nat) : Int)
  | [], pre, h => by
    rw [List.append_nil] at h
    subst h
    refine Ev.step (f := fun _ => some (((l.map Un.cout).sum : Nat) : Int)) (fun k => ?_) (Ev.now _)
    rw [epitomeref04_Out.l0, if_neg (by simp)]
  | u :: r, pre, h => by
    have hlt : (pre.length : Int) < ((l.map Un.sp).length : Int) := by subst h; simp <;> omega
    have hll : pre.length + (r.length + 1) = l.length := by subst h; simp
    have hle := hl.len
    have hco := hl.cout
    have hrd : rd_T26 (l.map Un.sp) (pre.length : Int) = u.sp := by
      rw [h, List.map_append, List.map_cons]
      exact rdS_at (by simp)
    have ih := refOut_loop l hl r (pre ++ [u]) (by simp [h])
    have hs : ((pre ++ [u]).map Un.cout).sum = (pre.map Un.cout).sum + u.cout := by simp
    have hle2 : (pre.map Un.cout).sum + u.cout ≤ (l.map Un.cout).sum := by rw [h]; simp <;> omega
    rw [hs, List.length_append] at ih
    refine Ev.step (f := fun k => (epitomeref03_Out.f k u.sp.f0 u.sp.f1 u.sp.f2).bind fun t => epitomeref04_Out.l0 k (l.map Un.sp) (wrap64 ((((pre.map Un.cout).sum : Nat) : Int) + t)) (wrap64 ((pre.length : Int) + 1))) (fun k => ?_) ?_
    · rw [epitomeref04_Out.l0, if_pos hlt, if_pos (by omega), hrd]
    · refine Ev.bind (refSpanOut_is u (hl.ok u (by rw [h]; simp)) (hl.cout_mem (by rw [h]; simp))) ?_
      rw [w64 (by omega) (by omega), w64_succ _ (by omega)]
      exact ih
theorem refOut_is {us : List Un} (h : Ok us) : Ev (fun k => epitomeref04_Out.f k (us.map Un.sp)) (((us.map Un.cout).sum : Nat) : Int) := by
  unfold epitomeref04_Out.f
  exact refOut_loop us h us [] rfl
end Go.Proofs.YtkefbljogjcodaaDoor.F
end
section
namespace Go.Proofs.YtkefbljogjcodaaDoor.F
open Go.RowKit Go.Proofs.YtkefbljogjcodaaDoorW.PrintWords Go.Proofs.YtkefbljogjcodaaDoorW.PrintLast Go.Proofs.YtkefbljogjcodaaDoorW.PrintMore
set_option linter.unusedVariables false
set_option linter.unusedSimpArgs false
def ChainOk : Nat → List (List Un) → Prop
  | _, [] => True
  | n, us :: r => FitB us n ∧ ChainOk ((us.map Un.cout).sum) r
theorem chain_loop (l : List (List Sp)) (hl : l.length ≤ maxLen) (hw : ∀ y ∈ l, y.length ≤ maxLen ∧ ∀ x ∈ y, (Lit.int .i64 x.f0).wf = true ∧ (Lit.int .i64 x.f1).wf = true ∧ x.f2.size ≤ maxLen) :
    ∀ (d i n : Nat) (out : List (List Un)), out.length = i → i + d = min l.length 20 → n ≤ 63 + 78 * i → ∃ w, Ev (fun k => epitomeref04_Chain.l0 k l (n : Int) (rowsS out) (i : Int)) (rowsS (out ++ w)) ∧ ChainOk n w ∧ w.length = d
  | 0, i, n, out, ho, hi, hn => by
    refine ⟨[], ?_, trivial, rfl⟩
    rw [List.append_nil]
    have j1 : Ev (fun k => epitomeref04_Chain.j1 k l (n : Int) (rowsS out) (i : Int) false) (rowsS out) :=
      Ev.step (f := fun _ => some (rowsS out)) (fun k => by rw [epitomeref04_Chain.j1, if_neg (by simp)]) (Ev.now _)
    by_cases h : i < l.length
    · refine Ev.step (f := fun k => epitomeref04_Chain.j1 k l (n : Int) (rowsS out) (i : Int) false) (fun k => ?_) j1
      rw [epitomeref04_Chain.l0, if_pos (by omega), decide_eq_false (by omega)]
    · refine Ev.step (f := fun k => epitomeref04_Chain.j1 k l (n : Int) (rowsS out) (i : Int) false) (fun k => ?_) j1
      rw [epitomeref04_Chain.l0, if_neg (by omega)]
  | d + 1, i, n, out, ho, hi, hn => by
    have hil : i < l.length := by omega
    have hi20 : i < 20 := by omega
    have hy := hw l[i] (List.getElem_mem _)
    obtain ⟨us, ef, fu⟩ := fitB l[i] hy.1 hy.2 n (by omega)
    have hco := fu.cout
    obtain ⟨w, ew, hcw, hlw⟩ := chain_loop l hl hw d (i + 1) ((us.map Un.cout).sum) (out ++ [us]) (by simp [ho]) (by omega) (by omega)
    refine ⟨us :: w, ?_, ⟨fu, hcw⟩, by simp [hlw]⟩
    have hol : (rowsS out).length = i := by unfold rowsS; rw [List.length_map, ho]
    refine Ev.step (f := fun k => epitomeref04_Chain.j1 k l (n : Int) (rowsS out) (i : Int) true) (fun k => by rw [epitomeref04_Chain.l0, if_pos (by omega), decide_eq_true (by omega)]) ?_
    refine Ev.step (f := fun k => (epitomeref04_Fit.f k l[i] (n : Int)).bind fun t105 => if (rowsS out).length < 5864062014805 then (epitomeref04_Out.f k t105).bind fun t111 => epitomeref04_Chain.l0 k l t111 (rowsS out ++ [t105]) (wrap64 ((i : Int) + 1)) else none) (fun k => ?_) ?_
    · rw [epitomeref04_Chain.j1, if_pos rfl, if_pos (by omega), if_pos (by omega)]
      have e : l.getD (i : Int).toNat [] = l[i] := by rw [Int.toNat_natCast, List.getD_eq_getElem?_getD, List.getElem?_eq_getElem hil]; rfl
      rw [← e]
      rfl
    · refine Ev.bind ef (ev_if_pos (by omega) (Ev.bind (refOut_is fu.ok) ?_))
      rw [w64_succ i (by omega)]
      have e1 : rowsS out ++ [us.map Un.sp] = rowsS (out ++ [us]) := by simp [rowsS]
      have e2 : rowsS (out ++ us :: w) = rowsS (out ++ [us] ++ w) := by simp
      rw [e1, e2]
      exact ew
theorem chain_is (l : List (List Sp)) (hl : l.length ≤ maxLen) (hw : ∀ y ∈ l, y.length ≤ maxLen ∧ ∀ x ∈ y, (Lit.int .i64 x.f0).wf = true ∧ (Lit.int .i64 x.f1).wf = true ∧ x.f2.size ≤ maxLen) (n : Nat) (hn : n ≤ 63) :
    ∃ w, Ev (fun k => epitomeref04_Chain.f k l (n : Int)) (rowsS w) ∧ ChainOk n w ∧ w.length ≤ 20 := by
  obtain ⟨w, ew, hc, hlen⟩ := chain_loop l hl hw (min l.length 20) 0 n [] rfl (by omega) (by omega)
  refine ⟨w, ?_, hc, by omega⟩
  unfold epitomeref04_Chain.f
  simpa [rowsS] using ew
end Go.Proofs.YtkefbljogjcodaaDoor.F
end
section
namespace Go.Proofs.YtkefbljogjcodaaDoor.F
open Go.RowKit Go.Proofs.YtkefbljogjcodaaDoorW.PrintWords Go.Proofs.YtkefbljogjcodaaDoorW.PrintLast Go.Proofs.YtkefbljogjcodaaDoorW.PrintMore
set_option linter.unusedVariables false
set_option linter.unusedSimpArgs false
theorem RunesU.nil : RunesU [] := fun z hz => by cases hz
end Go.Proofs.YtkefbljogjcodaaDoor.F
end
section
namespace Go.Proofs.YtkefbljogjcodaaDoor.F
open Go.RowKit Go.Proofs.YtkefbljogjcodaaDoorW.PrintWords Go.Proofs.YtkefbljogjcodaaDoorW.PrintLast Go.Proofs.YtkefbljogjcodaaDoorW.PrintMore
set_option linter.unusedVariables false
set_option linter.unusedSimpArgs false
def FullL (us : List Un) : Prop := ∀ u ∈ us, fullU u = true
theorem FullL.cons {u : Un} {us : List Un} (h : FullL (u :: us)) : fullU u = true ∧ FullL us := ⟨h u (by simp), fun v hv => h v (by simp [hv])⟩
end Go.Proofs.YtkefbljogjcodaaDoor.F
end
section
namespace Go.Proofs.YtkefbljogjcodaaDoor.F
open Go.RowKit Go.Proofs.YtkefbljogjcodaaDoorW.PrintWords Go.Proofs.YtkefbljogjcodaaDoorW.PrintLast Go.Proofs.YtkefbljogjcodaaDoorW.PrintMore
set_option linter.unusedVariables false
set_option linter.unusedSimpArgs false
def szU : Un → Nat
  | .keep n => n
  | .put l => l.length
  | .drop n => n
structure Small (us : List Un) : Prop where
  ok : ∀ u ∈ us, u.ok
  sz : ∀ u ∈ us, szU u ≤ 1099511627776
theorem Small.tail {u : Un} {us : List Un} (h : Small (u :: us)) : Small us := ⟨fun v hv => h.ok v (by simp [hv]), fun v hv => h.sz v (by simp [hv])⟩
end Go.Proofs.YtkefbljogjcodaaDoor.F
end
section
namespace Go.Proofs.YtkefbljogjcodaaDoor.F
open Go.RowKit Go.Proofs.YtkefbljogjcodaaDoorW.PrintWords Go.Proofs.YtkefbljogjcodaaDoorW.PrintLast Go.Proofs.YtkefbljogjcodaaDoorW.PrintMore
set_option linter.unusedVariables false
set_option linter.unusedSimpArgs false
theorem cout_text : ∀ us : List Un, (us.map Un.cout).sum ≤ (us.map Un.cin).sum + sizeS (us.map Un.sp)
  | [] => Nat.zero_le _
  | u :: us => by
    have h2 := cout_text us
    have h1 : u.cout ≤ u.cin + u.sp.f2.size := by
      cases u with
      | keep n => exact Nat.le_add_right _ _
      | put l => exact Nat.le_trans (encT_size l).1 (Nat.le_add_left _ _)
      | drop n => exact Nat.zero_le _
    unfold sizeS at h2 ⊢
    simp only [List.map_cons, List.sum_cons]
    omega
end Go.Proofs.YtkefbljogjcodaaDoor.F
end
section
namespace Go.Proofs.YtkefbljogjcodaaDoor.F
open Go.RowKit Go.Proofs.YtkefbljogjcodaaDoorW.PrintWords Go.Proofs.YtkefbljogjcodaaDoorW.PrintLast Go.Proofs.YtkefbljogjcodaaDoorW.PrintMore
set_option linter.unusedVariables false
set_option linter.unusedSimpArgs false
theorem sizeS_le (m : Nat) : ∀ l : List Sp, (∀ s ∈ l, s.f2.size ≤ m) → sizeS l ≤ m * l.length
  | [], _ => Nat.zero_le _
  | s :: l, h => by
    have h1 := h s (by simp)
    have h2 := sizeS_le m l (fun x hx => h x (by simp [hx]))
    unfold sizeS at h2 ⊢
    rw [List.map_cons, List.sum_cons, List.length_cons, Nat.mul_succ]
    omega
theorem ev_det {α : Type} {g : Nat → Option α} {a b : α} (h1 : Ev g a) (h2 : Ev g b) : a = b := by
  obtain ⟨K1, h1⟩ := h1
  obtain ⟨K2, h2⟩ := h2
  have e1 := h1 (max K1 K2) (Nat.le_max_left _ _)
  rw [h2 (max K1 K2) (Nat.le_max_right _ _)] at e1
  exact (Option.some.inj e1).symm
end Go.Proofs.YtkefbljogjcodaaDoor.F
end
section
namespace Go.Proofs.YtkefbljogjcodaaDoor.F
open Go.RowKit Go.Proofs.YtkefbljogjcodaaDoorW.PrintWords Go.Proofs.YtkefbljogjcodaaDoorW.PrintLast Go.Proofs.YtkefbljogjcodaaDoorW.PrintMore
set_option linter.unusedVariables false
set_option linter.unusedSimpArgs false
theorem sizeS_un : ∀ us : List Un, sizeS (us.map Un.sp) ≤ 4 * (us.map Un.cout).sum
  | [] => Nat.zero_le _
  | u :: us => by
    have h2 := sizeS_un us
    have h1 : u.sp.f2.size ≤ 4 * u.cout := by
      cases u with
      | keep n => exact Nat.zero_le _
      | put l => exact (encT_size l).2
      | drop n => exact Nat.zero_le _
    unfold sizeS at h2 ⊢
    simp only [List.map_cons, List.sum_cons]
    omega
theorem sizeS_mem {s : Sp} : ∀ {l : List Sp}, s ∈ l → s.f2.size ≤ sizeS l
  | x :: l, h => by
    unfold sizeS
    rw [List.map_cons, List.sum_cons]
    rcases List.mem_cons.1 h with rfl | h
    · omega
    · have := sizeS_mem h
      unfold sizeS at this
      omega
theorem apply_text (l : List Sp) (hl : l.length ≤ 500000) (hz : sizeS l ≤ 8000) (t : List Int) (ht : Runes t) (hb : t.length ≤ 200000) :
    ∃ r : ByteArray × Int, Ev (fun k => apply_To.f k l (encT t)) r ∧ Ev (fun k => epitomeref07_To.f k l (encT t)) r ∧ (r.2 = 0 → ∃ t', Runes t' ∧ r.1 = encT t' ∧ t'.length ≤ t.length + 8000) := by
  have hs : ∀ s ∈ l, s.f2.size ≤ 1048576 := fun s h => by have := sizeS_mem h; omega
  have st := (encT_size t).2
  obtain ⟨r, p, q⟩ := apply_all l hl hs (encT t) (by omega)
  refine ⟨r, p, q, fun hr => ?_⟩
  obtain ⟨e, m1, m2, hu⟩ := may_all l hl hs
  by_cases h0 : e = 0
  · subst h0
    obtain ⟨us, rfl, ok⟩ := hu rfl
    have hci := ok.cin
    by_cases hc : (us.map Un.cin).sum = t.length
    · have e1 := ev_det p (applyTo_is ok t ht hc)
      subst e1
      refine ⟨app (exU us) t, app_runes _ _ (runesU_ex us ok.ok) ht, rfl, ?_⟩
      rw [app_length _ _ (by rw [cinU_ex, hc]), coutU_ex]
      have := cout_text us
      omega
    · exfalso
      have e1 : Ev (fun k => apply_To.f k (us.map Un.sp) (encT t)) ((⟨#[]⟩ : ByteArray), 5) := by
        unfold apply_To.f
        exact Ev.bind m1 (ev_if_pos rfl (ev_some (count_enc t ht (by omega)) (ev_if_neg (by omega) (Ev.bind (opIn_is ok) (ev_if_neg (by omega) (Ev.now _))))))
      have e2 := ev_det p e1
      subst e2
      exact absurd hr (by decide)
  · exfalso
    have e1 : Ev (fun k => apply_To.f k l (encT t)) ((⟨#[]⟩ : ByteArray), e) := by
      unfold apply_To.f
      exact Ev.bind m1 (ev_if_neg h0 (Ev.now _))
    have e2 := ev_det p e1
    subst e2
    exact h0 hr
theorem anyRow (W : List (List Sp)) (hW : W.length ≤ 1000000) (hw : ∀ l ∈ W, l.length ≤ 500000 ∧ sizeS l ≤ 8000) :
    ∀ (r pre : List (List Sp)) (t : List Int), W = pre ++ r → Runes t → t.length + 8000 * r.length ≤ 200000 →
      ∃ x : ByteArray × Int, Ev (fun k => apply_All.l0 k (encT t) W (W.length : Int) (pre.length : Int)) x ∧ Ev (fun k => epitomeref07_All.l0 k (encT t) W (pre.length : Int)) x
  | [], pre, t, h, ht, _ => by
    rw [List.append_nil] at h
    subst h
    exact ⟨(encT t, 0), Ev.step (f := fun _ => some (encT t, 0)) (fun k => by rw [apply_All.l0, if_neg (by omega)]) (Ev.now _),
      Ev.step (f := fun _ => some (encT t, 0)) (fun k => by rw [epitomeref07_All.l0, if_neg (by omega)]) (Ev.now _)⟩
  | l :: r, pre, t, h, ht, hb => by
    have hll : W.length = pre.length + (r.length + 1) := by rw [h]; simp
    rw [List.length_cons] at hb
    have hm := hw l (by rw [h]; simp)
    have hrd : rd_L4 W (pre.length : Int) = l := by
      unfold rd_L4
      rw [h]
      simp
    obtain ⟨x, p, q, hx⟩ := apply_text l hm.1 hm.2 t ht (by omega)
    have s1 : ∀ y, Ev (fun k => (apply_To.f k l (encT t)).bind fun bt103 => if bt103.2 = 0 then apply_All.l0 k bt103.1 W (W.length : Int) ((pre.length + 1 : Nat) : Int) else some ((⟨#[]⟩ : ByteArray), bt103.2)) y →
        Ev (fun k => apply_All.l0 k (encT t) W (W.length : Int) (pre.length : Int)) y := fun y hy => by
      refine Ev.step (fun k => ?_) hy
      rw [apply_All.l0, if_pos (by omega), if_pos (by omega), if_pos (by omega), w64_succ _ (by omega), hrd]
    have s2 : ∀ y, Ev (fun k => (epitomeref07_To.f k l (encT t)).bind fun bt103 => if bt103.2 = 0 then epitomeref07_All.l0 k bt103.1 W ((pre.length + 1 : Nat) : Int) else some ((⟨#[]⟩ : ByteArray), bt103.2)) y →
        Ev (fun k => epitomeref07_All.l0 k (encT t) W (pre.length : Int)) y := fun y hy => by
      refine Ev.step (fun k => ?_) hy
      rw [epitomeref07_All.l0, if_pos (by omega), if_pos (by omega), w64_succ _ (by omega), hrd]
    by_cases h0 : x.2 = 0
    · obtain ⟨t', ht', e1, hl'⟩ := hx h0
      obtain ⟨y, p1, q1⟩ := anyRow W hW hw r (pre ++ [l]) t' (by simp [h]) ht' (by omega)
      rw [List.length_append, List.length_singleton] at p1 q1
      refine ⟨y, s1 y (Ev.bind p (ev_if_pos h0 ?_)), s2 y (Ev.bind q (ev_if_pos h0 ?_))⟩
      · rw [e1]; exact p1
      · rw [e1]; exact q1
    · exact ⟨((⟨#[]⟩ : ByteArray), x.2), s1 _ (Ev.bind p (ev_if_neg h0 (Ev.now _))), s2 _ (Ev.bind q (ev_if_neg h0 (Ev.now _)))⟩
theorem valid_encT (t : List Int) (ht : Runes t) : Lib.validD (encT t).data.toList = true := by rw [encT_list]; exact validD_enc t ht
theorem anyAll (W : List (List Sp)) (hW : W.length ≤ 20) (hw : ∀ l ∈ W, l.length ≤ 500000 ∧ sizeS l ≤ 8000) (t : List Int) (ht : Runes t) (hb : t.length ≤ 20) :
    ∃ x : ByteArray × Int, Ev (fun k => apply_All.f k (encT t) W) x ∧ Ev (fun k => epitomeref07_All.f k (encT t) W) x := by
  obtain ⟨x, p, q⟩ := anyRow W (by omega) hw W [] t rfl ht (by omega)
  have j0 : Ev (fun k => apply_All.j0 k (encT t) W false) x := Ev.step (f := fun k => apply_All.l0 k (encT t) W (W.length : Int) 0) (fun k => by rw [apply_All.j0, if_neg (by simp)]) p
  have j1 : Ev (fun k => epitomeref07_All.j0 k (encT t) W false) x := Ev.step (f := fun k => epitomeref07_All.l0 k (encT t) W 0) (fun k => by rw [epitomeref07_All.j0, if_neg (by simp)]) q
  have st := (encT_size t).2
  have hv := refValid_is (encT t) (by omega)
  rw [valid_encT t ht] at hv
  refine ⟨x, ?_, ?_⟩
  · unfold apply_All.f
    by_cases h0 : (W.length : Int) = 0
    · exact ev_if_pos h0 (ev_some (validStr_enc t ht (by omega)) j0)
    · exact ev_if_neg h0 j0
  · unfold epitomeref07_All.f
    exact Ev.bind hv (ev_if_pos rfl j1)
theorem badText : Ev (fun k => apply_All.f k (⟨#[255]⟩ : ByteArray) ([] : List (List Sp))) ((⟨#[]⟩ : ByteArray), 3) := by
  unfold apply_All.f
  refine ev_if_pos rfl (ev_some (valid_some (b := false) (by decide) (by decide)) ?_)
  exact Ev.step (f := fun _ => some ((⟨#[]⟩ : ByteArray), 3)) (fun k => by rw [apply_All.j0]; rfl) (Ev.now _)
theorem chain7_cout : ∀ (w : List (List Un)) (n : Nat), ChainOk n w → ∀ us ∈ w, us.length ≤ 13 ∧ (us.map Un.cout).sum ≤ n + 78 * w.length
  | [], _, _, us, h => by cases h
  | vs :: w, n, ⟨fu, hc⟩, us, h => by
    have hco := fu.cout
    have hle := fu.len
    rw [List.length_cons, Nat.mul_succ]
    rcases List.mem_cons.1 h with rfl | h
    · omega
    · have := chain7_cout w _ hc us h
      omega
theorem chain7_appOk : ∀ (w : List (List Un)) (t : List Int), Runes t → ChainOk t.length w → AppOk t w
  | [], _, _, _ => trivial
  | us :: w, t, ht, ⟨fu, hc⟩ => by
    have hcu := fu.cinU
    have hou := fu.coutU
    have hl := app_length (exU us) t hcu
    have hr := app_runes (exU us) t fu.runes ht
    exact ⟨fu.ok, fu.cin, hr, chain7_appOk w _ hr (by rw [hl, hou]; exact hc)⟩
end Go.Proofs.YtkefbljogjcodaaDoor.F
end
section
namespace Go.Proofs.YtkefbljogjcodaaDoor.F
open Go.RowKit Go.Proofs.YtkefbljogjcodaaDoorW.PrintWords Go.Proofs.YtkefbljogjcodaaDoorW.PrintLast Go.Proofs.YtkefbljogjcodaaDoorW.PrintMore
set_option linter.unusedVariables false
set_option linter.unusedSimpArgs false
def shownA : List Un := [.keep 1, .drop 1, .put [120], .keep 1]
theorem shownA_sp : shownA.map Un.sp = ([(⟨1, 1, (⟨#[]⟩ : ByteArray)⟩ : Sp), (⟨3, 1, (⟨#[]⟩ : ByteArray)⟩ : Sp), (⟨2, 0, (⟨#[120]⟩ : ByteArray)⟩ : Sp), (⟨1, 1, (⟨#[]⟩ : ByteArray)⟩ : Sp)] : List Sp) := rfl
theorem small_rune {l : List Int} (h : ∀ r ∈ l, 0 ≤ r ∧ r < 128) : Runes l := fun r hr => .inl ⟨(h r hr).1, by have := (h r hr).2; omega⟩
theorem shownA_ok : Ok shownA := by
  refine ⟨?_, by decide, by decide, by decide⟩
  intro u hu
  simp [shownA] at hu
  rcases hu with rfl | rfl | rfl | rfl
  · trivial
  · trivial
  · exact small_rune (by simp)
  · trivial
theorem shown07 : Ev (fun k => epitomelaw07_shown.f k) true := by
  have abc : Runes [97, 98, 99] := small_rune (by simp)
  have e : (⟨#[97, 98, 99]⟩ : ByteArray) = encT [97, 98, 99] := rfl
  unfold epitomelaw07_shown.f
  rw [← shownA_sp, e]
  refine Ev.bind (applyTo_is shownA_ok [97, 98, 99] abc (by decide)) ?_
  have all : Ev (fun k => apply_All.f k (encT [97, 98, 99]) ([] : List (List Sp))) (encT [97, 98, 99], 0) := by
    unfold apply_All.f
    refine ev_if_pos rfl (ev_some (validStr_enc _ abc (by decide)) ?_)
    refine Ev.step (f := fun k => apply_All.l0 k (encT [97, 98, 99]) [] 0 0) (fun k => ?_) ?_
    · rw [apply_All.j0, if_neg (by simp)]
      rfl
    · refine Ev.step (f := fun _ => some (encT [97, 98, 99], 0)) (fun k => ?_) (Ev.now _)
      rw [apply_All.l0, if_neg (by omega)]
  refine Ev.bind all ?_
  have t1 : (encT (app (exU shownA) [97, 98, 99])).toList = [97, 120, 99] := by rw [ByteArray.toList_eq]; rfl
  have t2 : (encT [97, 98, 99]).toList = [97, 98, 99] := by rw [ByteArray.toList_eq]; rfl
  exact ev_if_pos t1 (ev_if_pos rfl (ev_if_pos t2 (Ev.now _)))
end Go.Proofs.YtkefbljogjcodaaDoor.F
end
section
namespace Go.Proofs.YtkefbljogjcodaaDoor.F
open Go.RowKit Go.Proofs.YtkefbljogjcodaaDoorW.PrintWords Go.Proofs.YtkefbljogjcodaaDoorW.PrintLast Go.Proofs.YtkefbljogjcodaaDoorW.PrintMore
set_option linter.unusedVariables false
set_option linter.unusedSimpArgs false
theorem bools_of_struct {H : Type} {enc : TypeId × Value → H} {P : Program} {w : World} {base : Nat} {sp : Nat → Bool} {held : Bool} {fuel : Nat} {t : TypeId} {fs : Array Field} {cs : List Value} {zs : List Bool} {p : List MemPlace} (ht : P.underlying t = some (.struct fs))
    (hf : ∀ (i : Nat) (f : Field), fs[i]? = some f → P.underlying f.type = some .bool ∧ f.offset = i ∧ P.cellsOf f.type = 1) (hct : P.cellsOf t = fs.size)
    (h : DataW.trod enc P w base sp held fuel t cs = some (.agg (zs.map fun z => .lit (.bool z)), p)) : cs = zs.map fun z => Value.bool z := by
  obtain ⟨xs, n, rfl, hx, hl, hxl, hall⟩ := DataW.trod_struct ht h
  have hxs : xs.map (·.1) = zs.map fun z => (DataW.lit (.bool z) : DataW H) := by
    have := congrArg Prod.fst hx
    simpa using this.symm
  have hzl : zs.length = fs.size := by
    have := congrArg List.length hxs
    simp at this
    omega
  apply List.ext_getElem?
  intro i
  by_cases hi : i < fs.size
  · obtain ⟨hu, ho, hc⟩ := hf i fs[i] (by simp [hi])
    have h1 := hall i fs[i] (by simp [hi])
    obtain ⟨b, hb⟩ : ∃ b, xs[i]? = some b := ⟨xs[i]'(by omega), List.getElem?_eq_getElem (by omega)⟩
    rw [hb, ho, hc] at h1
    obtain ⟨z, hcz, rfl⟩ := DataW.trod_bool hu h1
    have h2 : cs[i]? = some (.bool z) := by
      have := congrArg (·[0]?) hcz
      simpa [List.getElem?_take, List.getElem?_drop] using this
    have h3 : (xs.map (·.1))[i]? = some (DataW.lit (.bool z) : DataW H) := by simp [hb]
    rw [hxs] at h3
    simp only [List.getElem?_map, Option.map_eq_some_iff, DataW.lit.injEq, Lit.bool.injEq] at h3
    obtain ⟨z', hz', rfl⟩ := h3
    simp [h2, hz']
  · rw [List.getElem?_eq_none (by omega), List.getElem?_eq_none (by simp; omega)]
theorem kinds_of_reads {W : World} (h : Lib.VarReads Tryd.prog W "epitome/span.kinds" Rows.laid_epitome_span_kinds) (i : Nat) (hi : i < 4) :
    W.cell? ⟨0, 2 * i, none⟩ = some (.bool (decide (i = 1 ∨ i = 3))) ∧ W.cell? ⟨0, 2 * i + 1, none⟩ = some (.bool (decide (i = 1))) := by
  obtain ⟨g, t, cs, fuel, p, hg, hty, hvar, hd⟩ := h
  have n0 : Tryd.prog.globalNamed "epitome/span.kinds" = some 0 := by kernel_rfl
  have y0 : (Tryd.prog.globals[0]?).map (·.type) = some 112 := by kernel_rfl
  have c4 : Tryd.prog.cellsOf 4 = 1 := by kernel_rfl
  have c90 : Tryd.prog.cellsOf 102 = 2 := by kernel_rfl
  obtain rfl := Option.some.inj (n0.symm.trans hg)
  obtain rfl := Option.some.inj (y0.symm.trans hty)
  obtain ⟨fuel', d, q, hdi, he⟩ := Lib.array_elem Tryd.underlying112 hd i hi
  have hdd : d = .agg ([decide (i = 1 ∨ i = 3), decide (i = 1)].map fun z => .lit (.bool z)) := by
    have : i = 0 ∨ i = 1 ∨ i = 2 ∨ i = 3 := by omega
    rcases this with rfl | rfl | rfl | rfl <;> (simp at hdi; exact hdi.symm)
  rw [hdd, c90] at he
  have hcs := bools_of_struct Tryd.underlying102 (fun j f hj => by
    match j, hj with
    | 0, hj => simp at hj; subst hj; exact ⟨Tryd.underlying4, rfl, c4⟩
    | 1, hj => simp at hj; subst hj; exact ⟨Tryd.underlying4, rfl, c4⟩
    | j + 2, hj => simp at hj) (by rw [c90]; rfl) he
  have e0 := congrArg (·[0]?) hcs
  have e1 := congrArg (·[1]?) hcs
  simp only [List.getElem?_take, List.getElem?_drop] at e0 e1
  constructor
  · rw [World.var?_cell n0 hvar (2 * i), ← Array.getElem?_toList]
    simpa [Nat.mul_comm] using e0
  · rw [World.var?_cell n0 hvar (2 * i + 1), ← Array.getElem?_toList]
    simpa [Nat.mul_comm] using e1
theorem accept_eq : (Rows.laid_unicode_utf8_acceptRanges : DataW Unit) = Lib.acceptData := by kernel_rfl
theorem first_eq : Rows.laid_unicode_utf8_first = Lib.firstData := by kernel_rfl
theorem glob_of_reads {W : World} (h1 : Lib.VarReads Tryd.prog W "unicode/utf8.first" Rows.laid_unicode_utf8_first) (h2 : Lib.VarReads Tryd.prog W "unicode/utf8.acceptRanges" Rows.laid_unicode_utf8_acceptRanges)
    (h3 : Lib.VarReads Tryd.prog W "epitome/span.kinds" Rows.laid_epitome_span_kinds) : Glob W := by
  rw [first_eq] at h1
  rw [accept_eq] at h2
  have k1 := kinds_of_reads h3 1 (by decide)
  have k2 := kinds_of_reads h3 2 (by decide)
  have k3 := kinds_of_reads h3 3 (by decide)
  exact ⟨k1.1, k1.2, k2.1, k2.2, k3.1, k3.2, utf8Tabs_of_readsT (Go.Proofs.U8Types.of196 Tryd.laysValid) ⟨by kernel_rfl, by kernel_rfl, by kernel_rfl, by kernel_rfl, by kernel_rfl, by kernel_rfl, by kernel_rfl⟩ h1 h2⟩
noncomputable def laidWorld (os : Os) : World :=
  let w0 := World.holding Tryd.prog os ⟨#[], #[], []⟩
  let put (h : Array Obj) (g : Nat) (cs : Array Value) : Array Obj := h.modify g fun
    | .cells _ t frozen => .cells cs t frozen
    | o => o
  let h1 := put w0.heap 0 #[.bool false, .bool false, .bool true, .bool true, .bool false, .bool false, .bool true, .bool false]
  let h2 := put h1 1 (Lib.firstTab.map fun z => Value.int .u8 z).toArray
  let h3 := put h2 2 ((List.range 16).flatMap fun i => [Value.int .u8 (Lib.accLo i), Value.int .u8 (Lib.accHi i)]).toArray
  { w0 with heap := h3 }
end Go.Proofs.YtkefbljogjcodaaDoor.F
end
