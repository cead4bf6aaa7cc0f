import Derived.Test.YtilbackjamjonaaKCKeepBoundsB
import Derived.Below
import Derived.Deep.Draws
import Derived.Deep.AppendLies
import Derived.Maps.AppendAt
import Derived.OwnWalk
import Derived.Laws.BytesArg
import Derived.Laws.MakeOwn
import Derived.Laws.OwnMore
import Derived.Deep.OwnRows
import Derived.Tactics
import Derived.Lib.ConvBytes
import Derived.Laws.Slices
import Derived.WalkKit
import Derived.KernelRfl
import Derived.RowKit3
import Derived.Deep.LoopGhost
import Derived.Deep.QuietTactic
import Derived.BigQuiet
import Derived.WideLaws
import Derived.Deep.DeepCutAuto
import Derived.Deep.CutBlock
import Derived.Deep.RegionHeld3
import Derived.Laws.Rows
import Derived.Lib.AppendStr
import Derived.ArgAppend
import Derived.Laws.IdiomCopy
import Derived.RowKit
import Derived.OrdersHeld
import Derived.Laws.BitsLemmas
import Derived.Test.YtilbackjamjonaaProg
import Derived.Handy
import Derived.Maps.OwnOps
import Derived.Maps.OwnSet
import Derived.Maps.Views
import Derived.ProofKit
import Derived.OpenShut
import Derived.ShutString
import Derived.ChangeOld
import Derived.SizedLaws
section
namespace Go.Proofs.Ytilbackjamjonaa.F
open Go.RowKit Go.Proofs.YtilbackjamjonaaW.PrintWords Go.Proofs.YtilbackjamjonaaW.PrintLast Go.Proofs.YtilbackjamjonaaW.PrintMore
set_option linter.unusedVariables false
set_option linter.unusedSimpArgs false
def Opens {α : Type} (P : Program) (t : TypeId) (d : Kd α) (V : α → Prop) : Prop :=
  ∀ {H : Type} (enc : TypeId × Value → H) (w : World) (base : Nat) (spare : Nat → Bool) (held : Bool) (fuel : Nat) (cs : List Value) (x : DataW H × List MemPlace),
    DataW.trod enc P w base spare held fuel t cs = some x → ∃ a : α, d.K w a cs ∧ V a
theorem opens_int {P : Program} {t : TypeId} {k : IntKind} (ht : P.underlying t = some (.int k)) : Opens P t (Kd.int k) (fun n => (Lit.int k n).wf = true) := by
  intro H enc w base spare held fuel cs x h
  obtain ⟨n, hc, _, hw⟩ := DataW.trod_int ht h
  exact ⟨n, hc, hw⟩
theorem list_of_each {α : Type} (R : Nat → α → Prop) : ∀ n : Nat, (∀ i, i < n → ∃ x, R i x) → ∃ l : List α, l.length = n ∧ ∀ i x, l[i]? = some x → R i x
  | 0, _ => ⟨[], rfl, fun i x h => by simp at h⟩
  | n + 1, h => by
    obtain ⟨l, hl, hr⟩ := list_of_each R n (fun i hi => h i (by omega))
    obtain ⟨x, hx⟩ := h n (by omega)
    refine ⟨l ++ [x], by simp [hl], fun i y hy => ?_⟩
    rw [List.getElem?_append] at hy
    split at hy
    · exact hr i y hy
    · next hge =>
      have : i = n := by
        have := (List.getElem?_eq_some_iff.1 hy).1
        simp at this
        omega
      subst this
      simp [hl] at hy
      exact hy ▸ hx
theorem cells_each {w : World} {base : Nat} {a : Addr} {n : Nat} {cs : List Value} (h : w.cells? base a n = some cs) : cs.length = n ∧ ∀ i u, cs[i]? = some u → w.cell? (a.add i) = some u := by
  unfold World.cells? at h
  split at h
  · have hl : cs.length = n := by
      have := mapM_some_length h
      simpa using this
    exact ⟨hl, fun i u hu => by
      have hi : i < n := by have := (List.getElem?_eq_some_iff.1 hu).1; omega
      rw [mapM_some_get h i i (by simp [hi])]
      exact hu⟩
  · cases h
theorem add_add (a : Addr) (i j : Nat) : (a.add i).add j = a.add (i + j) := by
  by_cases hi : i = 0
  · subst hi; simp [Addr.add]
  · by_cases hj : j = 0
    · subst hj; simp [Addr.add]
    · simp [Addr.add, hi, hj, Nat.add_assoc]
theorem opens_slice {α : Type} {P : Program} {t e : TypeId} {d : Kd α} {V : α → Prop} (ht : P.underlying t = some (.slice e)) (hc : P.cellsOf e = d.sz) (h : Opens P e d V) :
    Opens P t (Kd.slice e d) (fun l => l.length ≤ maxLen ∧ ∀ x ∈ l, V x) := by
  intro H enc w base spare held fuel cs x hx
  rcases DataW.trod_slice ht hx with ⟨rfl, rfl⟩ | ⟨a, len, cap, elems, rest, n, _, rfl, rfl, hb, hl, hm, hlen, hel, _, _⟩
  · exact ⟨[], ⟨none, 0, rfl, Nat.le_refl _, Kd.C_nil _ _⟩, by simp, by simp⟩
  · have each : ∀ i, i < len → ∃ p : α, (∃ c, c.length = d.sz ∧ d.K w p c ∧ ∀ j u, c[j]? = some u → w.cell? (a.add (i * d.sz + j)) = some u) ∧ V p := by
      intro i hi
      have hi' := hel i hi
      have hs : elems[i]? = some (elems[i]'(by omega)) := List.getElem?_eq_getElem (by omega)
      rw [hs, Option.bind_eq_some_iff] at hi'
      obtain ⟨c, hcs, hy⟩ := hi'
      obtain ⟨p, hp, hv⟩ := h enc w base spare held n c _ hy
      obtain ⟨hcl, hce⟩ := cells_each hcs
      refine ⟨p, ⟨c, hcl.trans hc, hp, fun j u hu => ?_⟩, hv⟩
      have := hce j u hu
      rw [add_add, hc] at this
      exact this
    obtain ⟨l, hll, hlr⟩ := list_of_each _ len each
    have hm' : len ≤ 9223372036854775807 := by unfold maxLen at hm; omega
    refine ⟨l, ⟨some a, cap, by rw [hll], by omega, rfl, by omega, fun _ => ⟨a, rfl, fun j p hj => (hlr j p hj).1⟩⟩, by unfold maxLen at hm ⊢; omega, fun x hx => ?_⟩
    obtain ⟨j, hj⟩ := List.getElem?_of_mem hx
    exact (hlr j x hj).2
end Go.Proofs.Ytilbackjamjonaa.F
end
section
namespace Go.Proofs.Ytilbackjamjonaa.F
open Go.RowKit Go.Proofs.YtilbackjamjonaaW.PrintWords Go.Proofs.YtilbackjamjonaaW.PrintLast Go.Proofs.YtilbackjamjonaaW.PrintMore
set_option linter.unusedVariables false
set_option linter.unusedSimpArgs false
theorem ev_if_pos {α : Type} {c : Prop} [Decidable c] {g f : Nat → Option α} {r : α} (hc : c) (h : Ev g r) : Ev (fun k => if c then g k else f k) r := by
  simp only [if_pos hc]; exact h
theorem ev_if_neg {α : Type} {c : Prop} [Decidable c] {g f : Nat → Option α} {r : α} (hc : ¬ c) (h : Ev f r) : Ev (fun k => if c then g k else f k) r := by
  simp only [if_neg hc]; exact h
theorem ev_some {α β : Type} {g : Option α} {a : α} {f : Nat → α → Option β} {r : β} (hg : g = some a) (h : Ev (fun n => f n a) r) : Ev (fun n => g.bind (f n)) r := by
  subst hg; exact h
theorem w64 {x : Int} (h : -9223372036854775808 ≤ x) (h2 : x ≤ 9223372036854775807) : wrap64 x = x := by unfold wrap64; omega
theorem wf_bounds {x : Int} (h : (Lit.int .i64 x).wf = true) : -9223372036854775808 ≤ x ∧ x ≤ 9223372036854775807 := by
  simp [Lit.wf, IntKind.min, IntKind.max, IntKind.bits, IntKind.signed] at h
  omega
theorem rd_nat (w : List Int) (i : Nat) : rd w (i : Int) = w.getD i 0 := by unfold rd; rw [Int.toNat_natCast]
theorem rd_of {w : List Int} {i : Int} {j : Nat} (h : i = j) : rd w i = w.getD j 0 := by rw [h, rd_nat]
end Go.Proofs.Ytilbackjamjonaa.F
end
section
namespace Go.Proofs.Ytilbackjamjonaa.F
open Go.RowKit Go.Proofs.YtilbackjamjonaaW.PrintWords Go.Proofs.YtilbackjamjonaaW.PrintLast Go.Proofs.YtilbackjamjonaaW.PrintMore
set_option linter.unusedVariables false
set_option linter.unusedSimpArgs false
def Rising (w : List Int) : Prop := ∀ i j : Nat, i < j → j < w.length → w.getD i 0 < w.getD j 0
structure Row (w : List Int) : Prop where
  rises : Rising w
  pos : 0 < w.length
  few : w.length ≤ 30
  small : ∀ i : Nat, i < w.length → 0 ≤ w.getD i 0 ∧ w.getD i 0 ≤ 120
theorem getD_append_left {xs ys : List Int} {i : Nat} (h : i < xs.length) : (xs ++ ys).getD i 0 = xs.getD i 0 := by
  simp [List.getD_eq_getElem?_getD, List.getElem?_append_left h]
theorem getD_append_last {xs : List Int} {y : Int} : (xs ++ [y]).getD xs.length 0 = y := by
  simp [List.getD_eq_getElem?_getD]
theorem step_range (x : Int) (h : -9223372036854775808 ≤ x) (h2 : x ≤ 9223372036854775807) : 0 ≤ Int.tmod (wrap64 (Int.tmod x 4 + 4)) 4 ∧ Int.tmod (wrap64 (Int.tmod x 4 + 4)) 4 ≤ 3 := by
  have h1 : -4 < Int.tmod x 4 := by have := Int.lt_tmod_of_pos x (show (0 : Int) < 4 by decide); omega
  have h3 : Int.tmod x 4 < 4 := Int.tmod_lt_of_pos x (by decide)
  rw [w64 (by omega) (by omega)]
  rw [Int.tmod_eq_emod_of_nonneg (by omega)]
  omega
theorem fit_loop (l : List Int) (hl : l.length ≤ maxLen) (hw : ∀ x ∈ l, (Lit.int .i64 x).wf = true) : ∀ d (i : Nat) (xs : List Int) (a : Int), 30 - i = d → i ≤ 30 → i ≤ l.length → xs.length = i → -1 ≤ a → a ≤ 4 * i - 1 → Rising xs →
    (∀ j : Nat, j < xs.length → 0 ≤ xs.getD j 0 ∧ xs.getD j 0 ≤ a) →
    ∃ w, Ev (fun k => epitomeref18_Fit.l0 k l xs a i) w ∧ Row w := by
  intro d
  unfold maxLen at hl
  have stop : ∀ (xs : List Int) (a : Int) (i : Nat), xs.length = i → i ≤ 30 → a ≤ 4 * i - 1 → Rising xs → (∀ j : Nat, j < xs.length → 0 ≤ xs.getD j 0 ∧ xs.getD j 0 ≤ a) → ∃ w, Ev (fun _ : Nat => if (xs.length : Int) = 0 then (some (([0] : List Int))) else (some xs)) w ∧ Row w := by
    intro xs a i hxs hi ha hr hs
    by_cases h0 : (xs.length : Int) = 0
    · exact ⟨[0], ev_if_pos h0 (Ev.now _), ⟨fun i j h1 h2 => by simp at h2; omega, by simp, by simp, fun i h => by simp at h; subst h; simp⟩⟩
    · exact ⟨xs, ev_if_neg h0 (Ev.now _), ⟨hr, by omega, by omega, fun j hj => by have := hs j hj; omega⟩⟩
  induction d with
  | zero =>
    intro i xs a hd hi hl2 hxs ha1 ha2 hr hs
    obtain ⟨w, hw1, hw2⟩ := stop xs a i hxs hi ha2 hr hs
    refine ⟨w, Ev.step (fun k => by rw [epitomeref18_Fit.l0]) ?_, hw2⟩
    by_cases h1 : (i : Int) < l.length
    · exact ev_if_pos h1 (ev_if_neg (by omega) hw1)
    · exact ev_if_neg h1 hw1
  | succ d ih =>
    intro i xs a hd hi hl2 hxs ha1 ha2 hr hs
    by_cases h1 : (i : Int) < l.length
    · have hx := hw (rd l i) (by rw [rd_nat, List.getD_eq_getElem?_getD, List.getElem?_eq_getElem (by omega)]; exact List.getElem_mem _)
      obtain ⟨b1, b2⟩ := wf_bounds hx
      obtain ⟨s1, s2⟩ := step_range (rd l i) b1 b2
      obtain ⟨s, hs'⟩ : ∃ s, Int.tmod (wrap64 (Int.tmod (rd l i) 4 + 4)) 4 = s := ⟨_, rfl⟩
      rw [hs'] at s1 s2
      obtain ⟨w, h2, h3⟩ := ih (i + 1) (xs ++ [a + 1 + s]) (a + 1 + s) (by omega) (by omega) (by omega) (by simp [hxs]) (by omega) (by omega)
        (by
          intro p q hpq hq
          simp at hq
          by_cases e : q = xs.length
          · subst e
            rw [getD_append_last, getD_append_left (by omega)]
            have := (hs p (by omega)).2
            omega
          · rw [getD_append_left (by omega), getD_append_left (by omega)]
            exact hr p q hpq (by omega))
        (by
          intro j hj
          simp at hj
          by_cases e : j = xs.length
          · subst e; rw [getD_append_last]; omega
          · rw [getD_append_left (by omega)]; have := hs j (by omega); omega)
      refine ⟨w, Ev.step (fun k => by rw [epitomeref18_Fit.l0]) ?_, h3⟩
      refine ev_if_pos h1 (ev_if_pos (by omega) (ev_if_pos (by omega) (ev_if_pos (by omega) ?_)))
      rw [hs', w64 (x := a + 1) (by omega) (by omega), w64 (x := a + 1 + s) (by omega) (by omega), w64 (x := (i : Int) + 1) (by omega) (by omega)]
      exact h2
    · obtain ⟨w, hw1, hw2⟩ := stop xs a i hxs hi ha2 hr hs
      exact ⟨w, Ev.step (fun k => by rw [epitomeref18_Fit.l0]) (ev_if_neg h1 hw1), hw2⟩
theorem fit_row (l : List Int) (h : l.length ≤ maxLen ∧ ∀ x ∈ l, (Lit.int .i64 x).wf = true) : ∃ w, Ev (fun k => epitomeref18_Fit.f k l) w ∧ Row w := by
  obtain ⟨w, h1, h2⟩ := fit_loop l h.1 h.2 30 0 [] (-1) (by omega) (by omega) (by omega) rfl (by omega) (by omega) (fun i j _ h => by simp at h) (fun j h => by simp at h)
  exact ⟨w, h1, h2⟩
theorem above_iff {w : List Int} (hr : Rising w) (r : Int) (i : Nat) (hi : i < w.length) : w.getD i 0 ≤ r ↔ i < above r w := by
  constructor
  · intro h
    rcases Nat.lt_or_ge i (above r w) with h1 | h1
    · exact h1
    · exfalso
      have hlt : w.findIdx (fun x => decide (r < x)) < w.length := by unfold above at h1; omega
      have h2 := List.findIdx_getElem (w := hlt)
      simp at h2
      unfold above at h1
      rcases Nat.lt_or_ge (w.findIdx (fun x => decide (r < x))) i with h3 | h3
      · have h5 := hr _ i h3 hi
        rw [List.getD_eq_getElem?_getD, List.getElem?_eq_getElem hlt, Option.getD_some] at h5
        omega
      · have e : i = w.findIdx (fun x => decide (r < x)) := by omega
        subst e
        rw [List.getD_eq_getElem?_getD, List.getElem?_eq_getElem hlt] at h
        simp at h
        omega
  · intro h
    have := List.not_of_lt_findIdx h
    rw [List.getD_eq_getElem?_getD, List.getElem?_eq_getElem hi]
    simp at this ⊢
    exact this
end Go.Proofs.Ytilbackjamjonaa.F
end
section
namespace Go.Proofs.Ytilbackjamjonaa.F
open Go.RowKit Go.Proofs.YtilbackjamjonaaW.PrintWords Go.Proofs.YtilbackjamjonaaW.PrintLast Go.Proofs.YtilbackjamjonaaW.PrintMore
set_option linter.unusedVariables false
set_option linter.unusedSimpArgs false
theorem rising_pairwise {w : List Int} : Rising w ↔ w.Pairwise (· < ·) := by
  rw [List.pairwise_iff_getElem]
  constructor
  · intro h i j hi hj hij
    have := h i j hij hj
    simpa [List.getD_eq_getElem?_getD, hi, hj] using this
  · intro h i j hij hj
    have := h i j (by omega) hj hij
    simpa [List.getD_eq_getElem?_getD, show i < w.length by omega, hj] using this
theorem mn_eq (a b : Int) : mn a b = min a b := by unfold mn; omega
theorem few18 (l : List Int) : epitomelaw18_few.f l = some (l.take 30) := by
  unfold epitomelaw18_few.f
  rw [mn_eq, if_pos (by omega), if_pos (by omega)]
  congr 1
  rw [List.take_eq_take_iff]
  omega
theorem in18 (l : List Int) (hl : l.length ≤ maxLen) (x : Int) : ∀ d (i : Nat), l.length - i = d → i ≤ l.length → Ev (fun k => epitomelaw18_in.l0 k l x i) ((l.drop i).contains x) := by
  intro d
  unfold maxLen at hl
  induction d with
  | zero =>
    intro i hd hi
    refine Ev.step (fun k => by rw [epitomelaw18_in.l0]) (ev_if_neg (by omega) ?_)
    rw [List.drop_of_length_le (by omega)]
    exact Ev.now _
  | succ d ih =>
    intro i hd hi
    refine Ev.step (fun k => by rw [epitomelaw18_in.l0]) (ev_if_pos (by omega) (ev_if_pos (by omega) ?_))
    have e : l.drop i = rd l i :: l.drop (i + 1) := by
      rw [List.drop_eq_getElem_cons (by omega), rd_nat]
      simp [List.getD_eq_getElem?_getD, show i < l.length by omega]
    rw [e]
    by_cases h : rd l i = x
    · refine ev_if_pos h ?_
      simp only [List.contains_cons, h, BEq.rfl, Bool.true_or]
      exact Ev.now _
    · refine ev_if_neg h ?_
      rw [w64 (x := (i : Int) + 1) (by omega) (by omega)]
      have := ih (i + 1) (by omega) (by omega)
      simpa [List.contains_cons, Ne.symm h] using this
theorem law_in (l : List Int) (hl : l.length ≤ maxLen) (x : Int) : Ev (fun k => epitomelaw18_in.f k l x) (l.contains x) := in18 l hl x l.length 0 (by omega) (by omega)
theorem sameRow_loop (a b : List Int) (hl : a.length ≤ maxLen) (h : a.length = b.length) : ∀ d (i : Nat), a.length - i = d → i ≤ a.length → Ev (fun k => epitomeref15_SameRow.l0 k a b i) (decide (a.drop i = b.drop i)) := by
  intro d
  unfold maxLen at hl
  induction d with
  | zero =>
    intro i hd hi
    refine Ev.step (fun k => by rw [epitomeref15_SameRow.l0]) (ev_if_neg (by omega) ?_)
    rw [List.drop_of_length_le (by omega), List.drop_of_length_le (by omega)]
    simp
    exact Ev.now _
  | succ d ih =>
    intro i hd hi
    refine Ev.step (fun k => by rw [epitomeref15_SameRow.l0]) (ev_if_pos (by omega) (ev_if_pos (by omega) (ev_if_pos (by omega) ?_)))
    have e : a.drop i = rd a i :: a.drop (i + 1) := by
      rw [List.drop_eq_getElem_cons (by omega), rd_nat]
      simp [List.getD_eq_getElem?_getD, show i < a.length by omega]
    have e' : b.drop i = rd b i :: b.drop (i + 1) := by
      rw [List.drop_eq_getElem_cons (by omega), rd_nat]
      simp [List.getD_eq_getElem?_getD, show i < b.length by omega]
    rw [e, e']
    by_cases hh : rd a i = rd b i
    · refine ev_if_pos hh ?_
      rw [w64 (x := (i : Int) + 1) (by omega) (by omega)]
      have := ih (i + 1) (by omega) (by omega)
      simpa [hh] using this
    · refine ev_if_neg hh ?_
      simp only [List.cons.injEq, hh, false_and, decide_false]
      exact Ev.now _
theorem same_row (a b : List Int) (hl : a.length ≤ maxLen) : Ev (fun k => epitomeref15_SameRow.f k a b) (decide (a = b)) := by
  unfold epitomeref15_SameRow.f
  by_cases h : a.length = b.length
  · exact ev_if_pos (by omega) (by simpa using sameRow_loop a b hl h a.length 0 (by omega) (by omega))
  · refine ev_if_neg (by omega) ?_
    rw [decide_eq_false (fun e => h (by rw [e]))]
    exact Ev.now _
theorem keepFloor_ev (l : List Int) (a : Int) (hm : l.length ≤ maxLen) : Ev (fun k => keep_Floor.f k l a) (floorOf l a : Int) :=
  Ev.of (keep_Floor.mono l a) (keep_Floor_is l a (by unfold maxLen at hm; omega))
theorem getD_drop (l : List Int) (n i : Nat) : (l.drop n).getD i 0 = l.getD (n + i) 0 := by
  simp [List.getD_eq_getElem?_getD, List.getElem?_drop]
theorem rising_drop {w : List Int} (h : Rising w) (n : Nat) : Rising (w.drop n) := rising_pairwise.2 ((rising_pairwise.1 h).sublist (List.drop_sublist _ _))
theorem kept_mem {m s : List Int} {x : Int} : x ∈ keptOf m s ↔ x ∈ m ∧ (x = rd m 0 ∨ x = rd m (m.length - 1) ∨ x ∈ s) := by
  unfold keptOf wants
  rw [List.mem_filter]
  simp [or_assoc]
theorem kept_rising {m : List Int} (h : m.Pairwise (· < ·)) (s : List Int) : (keptOf m s).Pairwise (· < ·) := h.sublist (List.filter_sublist)
theorem rd_last {m : List Int} (h : 0 < m.length) : rd m (m.length - 1) = m.getD (m.length - 1) 0 := rd_of (by omega)
theorem filter_head (p : Int → Bool) {m : List Int} (h : 0 < m.length) (hp : p (m.getD 0 0) = true) : 0 < (m.filter p).length ∧ (m.filter p).getD 0 0 = m.getD 0 0 := by
  cases m with
  | nil => simp at h
  | cons x t =>
    simp at hp
    simp [List.filter_cons, hp]
theorem filter_last (p : Int → Bool) {m : List Int} (h : 0 < m.length) (hp : p (m.getD (m.length - 1) 0) = true) : (m.filter p).getD ((m.filter p).length - 1) 0 = m.getD (m.length - 1) 0 := by
  obtain ⟨t, x, rfl⟩ : ∃ t x, m = t ++ [x] := ⟨m.dropLast, m.getLast (by intro e; rw [e] at h; simp at h), (List.dropLast_concat_getLast _).symm⟩
  have e : (t ++ [x]).getD ((t ++ [x]).length - 1) 0 = x := by
    rw [show (t ++ [x]).length - 1 = t.length by simp]
    exact getD_append_last
  rw [e] at hp ⊢
  rw [List.filter_append]
  simp only [List.filter_cons, hp, List.filter_nil, if_true]
  rw [show (t.filter p ++ [x]).length - 1 = (t.filter p).length by simp]
  exact getD_append_last
theorem kept_ends {m : List Int} (h : 0 < m.length) (s : List Int) : 0 < (keptOf m s).length ∧ (keptOf m s).getD 0 0 = m.getD 0 0 ∧ (keptOf m s).getD ((keptOf m s).length - 1) 0 = m.getD (m.length - 1) 0 := by
  have h0 := filter_head (wants m s) h (by unfold wants; rw [rd_of (show (0 : Int) = ((0 : Nat) : Int) by rfl)]; simp)
  have h1 := filter_last (wants m s) h (by unfold wants; rw [rd_last h]; simp)
  exact ⟨h0.1, h0.2, h1⟩
theorem all_isInt {l : List Int} (h : ∀ x ∈ l, (Lit.int .i64 x).wf = true) : l.all isInt = true := by
  rw [List.all_eq_true]
  intro x hx
  have := wf_bounds (h x hx)
  unfold isInt
  simp
  omega
theorem Row.ints {w : List Int} (h : Row w) : w.all isInt = true := by
  rw [List.all_eq_true]
  intro x hx
  obtain ⟨j, hj⟩ := List.getElem?_of_mem hx
  have hjl : j < w.length := (List.getElem?_eq_some_iff.1 hj).1
  have := h.small j hjl
  rw [List.getD_eq_getElem?_getD, hj] at this
  unfold isInt
  simp at this ⊢
  omega
theorem keepOf_is {w s : List Int} (f : Int) (h0 : 0 < w.length) (h1 : w.length < 17592186044416) (h2 : s.length < 17592186044416) (h3 : w.all isInt = true) (h4 : s.all isInt = true) : keep_Of.f w s f = some (keptOf (w.drop (floorOf w f)) s) := by
  unfold keep_Of.f
  rw [if_pos ⟨h0, h1, h2, h3, h4⟩]
theorem shown18 : Ev (fun k => epitomelaw18_shown.f k) true := by
  unfold epitomelaw18_shown.f
  refine ev_some (show keep_Of.f [0, 1, 2, 3, 4, 5] [3, 9, -1] 1 = some [1, 3, 5] by decide +kernel) ?_
  refine Ev.bind (same_row [1, 3, 5] [1, 3, 5] (by decide)) (ev_if_pos (by decide) ?_)
  refine Ev.bind (keepFloor_ev [2, 4] 5 (by decide)) ?_
  rw [show floorOf [2, 4] 5 = 1 by decide +kernel]
  exact Ev.now _
theorem take_wf2 {l : List Int} (h : l.length ≤ maxLen ∧ ∀ x ∈ l, (Lit.int .i64 x).wf = true) (n : Nat) : (l.take n).length ≤ maxLen ∧ ∀ x ∈ l.take n, (Lit.int .i64 x).wf = true :=
  ⟨by rw [List.length_take]; omega, fun x hx => h.2 x (List.mem_of_mem_take hx)⟩
theorem rising_inj {w : List Int} (h : Rising w) {i j : Nat} (hi : i < w.length) (hj : j < w.length) (e : w.getD i 0 = w.getD j 0) : i = j := by
  rcases Nat.lt_trichotomy i j with c | c | c
  · have := h i j c hj; omega
  · exact c
  · have := h j i c hi; omega
end Go.Proofs.Ytilbackjamjonaa.F
end
