-- YtdmgbgobfkjeiaaPKeep18
import Derived.Test.YtdmgbgobfkjeiaaBase
import Derived.Test.YtdmgbgobfkjeiaaFEpitomelaw18Few
import Derived.Test.YtdmgbgobfkjeiaaFEpitomelaw18In
import Derived.Test.YtdmgbgobfkjeiaaFEpitomelaw18Shown
import Derived.Test.YtdmgbgobfkjeiaaFEpitomeref15SameRow
import Derived.Test.YtdmgbgobfkjeiaaFEpitomeref18In
import Derived.Test.YtdmgbgobfkjeiaaFKeepFloor
import Derived.Test.YtdmgbgobfkjeiaaHKeep
import Derived.Test.YtdmgbgobfkjeiaaHSeek
import Derived.Test.YtdmgbgobfkjeiaaPEv
import Derived.Test.YtdmgbgobfkjeiaaPRef18
namespace Go.Proofs.Ytdmgbgobfkjeiaa.F
open Go.RowKit Go.Proofs.YtdmgbgobfkjeiaaW.PrintWords Go.Proofs.YtdmgbgobfkjeiaaW.PrintLast Go.Proofs.YtdmgbgobfkjeiaaW.PrintMore
set_option linter.unusedVariables false
set_option linter.unusedSimpArgs false
/-! Plain laws of what is kept. -/
theorem rising_pairwise {w : List Int} : Rising w ↔ w.Pairwise (· < ·) := by
  rw [List.pairwise_iff_getElem]
  constructor
  · intro h i j hi hj hij
    have := h i j hij hj
    simpa [List.getD_eq_getElem?_getD, hi, hj] using this
  · intro h i j hij hj
    have := h i j (by omega) hj hij
    simpa [List.getD_eq_getElem?_getD, show i < w.length by omega, hj] using this

theorem ext_rising : ∀ {a b : List Int}, a.Pairwise (· < ·) → b.Pairwise (· < ·) → (∀ x, x ∈ a ↔ x ∈ b) → a = b
  | [], [], _, _, _ => rfl
  | [], y :: b, _, _, h => by have := (h y).2 (by simp); simp at this
  | x :: a, [], _, _, h => by have := (h x).1 (by simp); simp at this
  | x :: a, y :: b, ha, hb, h => by
    rw [List.pairwise_cons] at ha hb
    have hxy : x = y := by
      rcases List.mem_cons.1 ((h x).1 (by simp)) with e | e
      · exact e
      · rcases List.mem_cons.1 ((h y).2 (by simp)) with e2 | e2
        · exact e2.symm
        · have := ha.1 y e2; have := hb.1 x e; omega
    subst hxy
    congr 1
    refine ext_rising ha.2 hb.2 fun z => ?_
    constructor
    · intro hz
      rcases List.mem_cons.1 ((h z).1 (List.mem_cons_of_mem _ hz)) with e | e
      · subst e; have := ha.1 z hz; omega
      · exact e
    · intro hz
      rcases List.mem_cons.1 ((h z).2 (List.mem_cons_of_mem _ hz)) with e | e
      · subst e; have := hb.1 z hz; omega
      · exact e

theorem mn_eq (a b : Int) : mn a b = min a b := by unfold mn; omega
theorem mx_eq (a b : Int) : mx a b = max a b := by unfold mx; omega

theorem few18 (l : List Int) : epitomelaw18_few.f l = some (l.take 30) := by
  unfold epitomelaw18_few.f
  rw [mn_eq, if_pos (by omega), if_pos (by omega)]
  congr 1
  rw [List.take_eq_take_iff]
  omega

theorem in18 (l : List Int) (hl : l.length ≤ maxLen) (x : Int) : ∀ d (i : Nat), l.length - i = d → i ≤ l.length → Ev (fun k => epitomelaw18_in.l0 k l x i) ((l.drop i).contains x) := by
  intro d
  unfold maxLen at hl
  induction d with
  | zero =>
    intro i hd hi
    refine Ev.step (fun k => by rw [epitomelaw18_in.l0]) (ev_if_neg (by omega) ?_)
    rw [List.drop_of_length_le (by omega)]
    exact Ev.now _
  | succ d ih =>
    intro i hd hi
    refine Ev.step (fun k => by rw [epitomelaw18_in.l0]) (ev_if_pos (by omega) (ev_if_pos (by omega) ?_))
    have e : l.drop i = rd l i :: l.drop (i + 1) := by
      rw [List.drop_eq_getElem_cons (by omega), rd_nat]
      simp [List.getD_eq_getElem?_getD, show i < l.length by omega]
    rw [e]
    by_cases h : rd l i = x
    · refine ev_if_pos h ?_
      simp only [List.contains_cons, h, BEq.rfl, Bool.true_or]
      exact Ev.now _
    · refine ev_if_neg h ?_
      rw [w64 (x := (i : Int) + 1) (by omega) (by omega)]
      have := ih (i + 1) (by omega) (by omega)
      simpa [List.contains_cons, Ne.symm h] using this
theorem law_in (l : List Int) (hl : l.length ≤ maxLen) (x : Int) : Ev (fun k => epitomelaw18_in.f k l x) (l.contains x) := in18 l hl x l.length 0 (by omega) (by omega)

theorem refin18 (l : List Int) (hl : l.length ≤ maxLen) (x : Int) : ∀ d (i : Nat), l.length - i = d → i ≤ l.length → Ev (fun k => epitomeref18_in.l0 k l x i) ((l.drop i).contains x) := by
  intro d
  unfold maxLen at hl
  induction d with
  | zero =>
    intro i hd hi
    refine Ev.step (fun k => by rw [epitomeref18_in.l0]) (ev_if_neg (by omega) ?_)
    rw [List.drop_of_length_le (by omega)]
    exact Ev.now _
  | succ d ih =>
    intro i hd hi
    refine Ev.step (fun k => by rw [epitomeref18_in.l0]) (ev_if_pos (by omega) (ev_if_pos (by omega) ?_))
    have e : l.drop i = rd l i :: l.drop (i + 1) := by
      rw [List.drop_eq_getElem_cons (by omega), rd_nat]
      simp [List.getD_eq_getElem?_getD, show i < l.length by omega]
    rw [e]
    by_cases h : rd l i = x
    · refine ev_if_pos h ?_
      simp only [List.contains_cons, h, BEq.rfl, Bool.true_or]
      exact Ev.now _
    · refine ev_if_neg h ?_
      rw [w64 (x := (i : Int) + 1) (by omega) (by omega)]
      have := ih (i + 1) (by omega) (by omega)
      simpa [List.contains_cons, Ne.symm h] using this
theorem ref_in (l : List Int) (hl : l.length ≤ maxLen) (x : Int) : Ev (fun k => epitomeref18_in.f k l x) (l.contains x) := refin18 l hl x l.length 0 (by omega) (by omega)

theorem sameRow_loop (a b : List Int) (hl : a.length ≤ maxLen) (h : a.length = b.length) : ∀ d (i : Nat), a.length - i = d → i ≤ a.length → Ev (fun k => epitomeref15_SameRow.l0 k a b i) (decide (a.drop i = b.drop i)) := by
  intro d
  unfold maxLen at hl
  induction d with
  | zero =>
    intro i hd hi
    refine Ev.step (fun k => by rw [epitomeref15_SameRow.l0]) (ev_if_neg (by omega) ?_)
    rw [List.drop_of_length_le (by omega), List.drop_of_length_le (by omega)]
    simp
    exact Ev.now _
  | succ d ih =>
    intro i hd hi
    refine Ev.step (fun k => by rw [epitomeref15_SameRow.l0]) (ev_if_pos (by omega) (ev_if_pos (by omega) (ev_if_pos (by omega) ?_)))
    have e : a.drop i = rd a i :: a.drop (i + 1) := by
      rw [List.drop_eq_getElem_cons (by omega), rd_nat]
      simp [List.getD_eq_getElem?_getD, show i < a.length by omega]
    have e' : b.drop i = rd b i :: b.drop (i + 1) := by
      rw [List.drop_eq_getElem_cons (by omega), rd_nat]
      simp [List.getD_eq_getElem?_getD, show i < b.length by omega]
    rw [e, e']
    by_cases hh : rd a i = rd b i
    · refine ev_if_pos hh ?_
      rw [w64 (x := (i : Int) + 1) (by omega) (by omega)]
      have := ih (i + 1) (by omega) (by omega)
      simpa [hh] using this
    · refine ev_if_neg hh ?_
      simp only [List.cons.injEq, hh, false_and, decide_false]
      exact Ev.now _
theorem same_row (a b : List Int) (hl : a.length ≤ maxLen) : Ev (fun k => epitomeref15_SameRow.f k a b) (decide (a = b)) := by
  unfold epitomeref15_SameRow.f
  by_cases h : a.length = b.length
  · exact ev_if_pos (by omega) (by simpa using sameRow_loop a b hl h a.length 0 (by omega) (by omega))
  · refine ev_if_neg (by omega) ?_
    rw [decide_eq_false (fun e => h (by rw [e]))]
    exact Ev.now _

theorem keepFloor_ev (l : List Int) (a : Int) (hm : l.length ≤ maxLen) : Ev (fun k => keep_Floor.f k l a) (floorOf l a : Int) :=
  Ev.of (keep_Floor.mono l a) (keep_Floor_is l a (by unfold maxLen at hm; omega))

/-! What is kept of a row that rises. -/
theorem above_unique {l : List Int} {r : Int} {a : Nat} (ha : a ≤ l.length) (h1 : ∀ i, i < a → l.getD i 0 ≤ r) (h2 : a < l.length → r < l.getD a 0) : above r l = a := by
  have hle := above_le r l
  rcases Nat.lt_trichotomy (above r l) a with h | h | h
  · exfalso
    have h3 := h1 _ h
    have hlt : l.findIdx (fun x => decide (r < x)) < l.length := by unfold above at h; omega
    have h4 := List.findIdx_getElem (w := hlt)
    unfold above at h3
    rw [List.getD_eq_getElem?_getD, List.getElem?_eq_getElem hlt] at h3
    simp at h3 h4
    omega
  · exact h
  · exfalso
    have h3 := List.not_of_lt_findIdx h
    have h4 := h2 (by omega)
    rw [List.getD_eq_getElem?_getD, List.getElem?_eq_getElem (by omega)] at h4
    simp at h3 h4
    omega

theorem getD_drop (l : List Int) (n i : Nat) : (l.drop n).getD i 0 = l.getD (n + i) 0 := by
  simp [List.getD_eq_getElem?_getD, List.getElem?_drop]
theorem rising_drop {w : List Int} (h : Rising w) (n : Nat) : Rising (w.drop n) := rising_pairwise.2 ((rising_pairwise.1 h).sublist (List.drop_sublist _ _))
theorem above_drop {w : List Int} (h : Rising w) (r : Int) (n : Nat) (hn : n ≤ w.length) : above r (w.drop n) = above r w - n := by
  have hle := above_le r w
  refine above_unique (by rw [List.length_drop]; omega) (fun i hi => ?_) (fun hi => ?_)
  · rw [getD_drop]
    exact (above_iff h r _ (by omega)).2 (by omega)
  · rw [List.length_drop] at hi
    rw [getD_drop]
    have := above_iff h r (n + (above r w - n)) (by omega)
    omega

theorem kept_mem {m s : List Int} {x : Int} : x ∈ keptOf m s ↔ x ∈ m ∧ (x = rd m 0 ∨ x = rd m (m.length - 1) ∨ x ∈ s) := by
  unfold keptOf wants
  rw [List.mem_filter]
  simp [or_assoc]
theorem kept_rising {m : List Int} (h : m.Pairwise (· < ·)) (s : List Int) : (keptOf m s).Pairwise (· < ·) := h.sublist (List.filter_sublist)

theorem rd_last {m : List Int} (h : 0 < m.length) : rd m (m.length - 1) = m.getD (m.length - 1) 0 := rd_of (by omega)
theorem filter_head (p : Int → Bool) {m : List Int} (h : 0 < m.length) (hp : p (m.getD 0 0) = true) : 0 < (m.filter p).length ∧ (m.filter p).getD 0 0 = m.getD 0 0 := by
  cases m with
  | nil => simp at h
  | cons x t =>
    simp at hp
    simp [List.filter_cons, hp]
theorem filter_last (p : Int → Bool) {m : List Int} (h : 0 < m.length) (hp : p (m.getD (m.length - 1) 0) = true) : (m.filter p).getD ((m.filter p).length - 1) 0 = m.getD (m.length - 1) 0 := by
  obtain ⟨t, x, rfl⟩ : ∃ t x, m = t ++ [x] := ⟨m.dropLast, m.getLast (by intro e; rw [e] at h; simp at h), (List.dropLast_concat_getLast _).symm⟩
  have e : (t ++ [x]).getD ((t ++ [x]).length - 1) 0 = x := by
    rw [show (t ++ [x]).length - 1 = t.length by simp]
    exact getD_append_last
  rw [e] at hp ⊢
  rw [List.filter_append]
  simp only [List.filter_cons, hp, List.filter_nil, if_true]
  rw [show (t.filter p ++ [x]).length - 1 = (t.filter p).length by simp]
  exact getD_append_last

theorem kept_ends {m : List Int} (h : 0 < m.length) (s : List Int) : 0 < (keptOf m s).length ∧ (keptOf m s).getD 0 0 = m.getD 0 0 ∧ (keptOf m s).getD ((keptOf m s).length - 1) 0 = m.getD (m.length - 1) 0 := by
  have h0 := filter_head (wants m s) h (by unfold wants; rw [rd_of (show (0 : Int) = ((0 : Nat) : Int) by rfl)]; simp)
  have h1 := filter_last (wants m s) h (by unfold wants; rw [rd_last h]; simp)
  exact ⟨h0.1, h0.2, h1⟩
theorem kept_rd {m : List Int} (h : 0 < m.length) (s : List Int) : rd (keptOf m s) 0 = rd m 0 ∧ rd (keptOf m s) ((keptOf m s).length - 1) = rd m (m.length - 1) := by
  obtain ⟨h1, h2, h3⟩ := kept_ends h s
  rw [rd_of (show (0 : Int) = ((0 : Nat) : Int) by rfl), rd_of (show (0 : Int) = ((0 : Nat) : Int) by rfl), rd_last h1, rd_last h]
  exact ⟨h2, h3⟩

/-- What is kept by a set, and then by a part of it, is what that part keeps. -/
theorem kept_part {m s part : List Int} (hm : m.Pairwise (· < ·)) (h : 0 < m.length) (hp : ∀ x ∈ part, x ∈ s) : keptOf (keptOf m s) part = keptOf m part := by
  obtain ⟨e0, e1⟩ := kept_rd h s
  refine ext_rising (kept_rising (kept_rising hm s) part) (kept_rising hm part) fun x => ?_
  rw [kept_mem, kept_mem, kept_mem, e0, e1]
  constructor
  · rintro ⟨⟨h1, _⟩, h2⟩
    exact ⟨h1, h2⟩
  · rintro ⟨h1, h2⟩
    refine ⟨⟨h1, ?_⟩, h2⟩
    rcases h2 with h2 | h2 | h2
    · exact .inl h2
    · exact .inr (.inl h2)
    · exact .inr (.inr (hp x h2))
theorem kept_all {m s : List Int} (hm : m.Pairwise (· < ·)) (hs : ∀ x ∈ m, x ∈ s) : keptOf m s = m := by
  refine ext_rising (kept_rising hm s) hm fun x => ?_
  rw [kept_mem]
  exact ⟨fun h => h.1, fun h => ⟨h, .inr (.inr (hs x h))⟩⟩
theorem kept_like {m s t : List Int} (hm : m.Pairwise (· < ·)) (hs : ∀ x ∈ m, x ∈ s ↔ x ∈ t) : keptOf m s = keptOf m t := by
  refine ext_rising (kept_rising hm s) (kept_rising hm t) fun x => ?_
  rw [kept_mem, kept_mem]
  constructor
  · rintro ⟨h1, h2⟩; exact ⟨h1, by rw [← hs x h1]; exact h2⟩
  · rintro ⟨h1, h2⟩; exact ⟨h1, by rw [hs x h1]; exact h2⟩

/-- The floor of what is kept from a floor on is its first one. -/
theorem floor_kept {w : List Int} (hw : Rising w) (hp : 0 < w.length) (f : Int) (s : List Int) : floorOf (keptOf (w.drop (floorOf w f)) s) f = 0 := by
  have hlt := floorOf_lt w f hp
  have hd : 0 < (w.drop (floorOf w f)).length := by rw [List.length_drop]; omega
  obtain ⟨h1, h2, _⟩ := kept_ends hd s
  have hr := rising_pairwise.2 (kept_rising (rising_pairwise.1 (rising_drop hw (floorOf w f))) s)
  unfold floorOf at *
  rcases Nat.lt_or_ge 1 (above f (keptOf (w.drop (above f w - 1)) s)) with h | h
  · exfalso
    have hle := above_le f (keptOf (w.drop (above f w - 1)) s)
    have h3 := (above_iff hr f 1 (by omega)).2 h
    have hmem : (keptOf (w.drop (above f w - 1)) s).getD 1 0 ∈ w.drop (above f w - 1) := by
      have : (keptOf (w.drop (above f w - 1)) s).getD 1 0 ∈ keptOf (w.drop (above f w - 1)) s := by
        rw [List.getD_eq_getElem?_getD, List.getElem?_eq_getElem (by omega)]
        exact List.getElem_mem _
      exact (kept_mem.1 this).1
    obtain ⟨j, hj⟩ := List.getElem?_of_mem hmem
    have hjl : j < (w.drop (above f w - 1)).length := (List.getElem?_eq_some_iff.1 hj).1
    have hje : (w.drop (above f w - 1)).getD j 0 = (keptOf (w.drop (above f w - 1)) s).getD 1 0 := by
      rw [List.getD_eq_getElem?_getD, hj]; rfl
    have h01 := hr 0 1 (by omega) (by omega)
    rw [h2, ← hje] at h01
    have hj0 : 0 < j := by
      rcases Nat.eq_zero_or_pos j with e | e
      · subst e; omega
      · exact e
    have := (above_iff (rising_drop hw (above f w - 1)) f j hjl).1 (by rw [hje]; exact h3)
    rw [above_drop hw f _ (by have := above_le f w; omega)] at this
    omega
  · omega

theorem all_isInt {l : List Int} (h : ∀ x ∈ l, (Lit.int .i64 x).wf = true) : l.all isInt = true := by
  rw [List.all_eq_true]
  intro x hx
  have := wf_bounds (h x hx)
  unfold isInt
  simp
  omega
theorem Row.ints {w : List Int} (h : Row w) : w.all isInt = true := by
  rw [List.all_eq_true]
  intro x hx
  obtain ⟨j, hj⟩ := List.getElem?_of_mem hx
  have hjl : j < w.length := (List.getElem?_eq_some_iff.1 hj).1
  have := h.small j hjl
  rw [List.getD_eq_getElem?_getD, hj] at this
  unfold isInt
  simp at this ⊢
  omega
theorem all_sub {l m : List Int} (h : m.all isInt = true) (hs : ∀ x ∈ l, x ∈ m) : l.all isInt = true := by
  rw [List.all_eq_true] at h ⊢
  exact fun x hx => h x (hs x hx)
theorem keepOf_is {w s : List Int} (f : Int) (h0 : 0 < w.length) (h1 : w.length < 17592186044416) (h2 : s.length < 17592186044416) (h3 : w.all isInt = true) (h4 : s.all isInt = true) : keep_Of.f w s f = some (keptOf (w.drop (floorOf w f)) s) := by
  unfold keep_Of.f
  rw [if_pos ⟨h0, h1, h2, h3, h4⟩]

theorem shown18 : Ev (fun k => epitomelaw18_shown.f k) true := by
  unfold epitomelaw18_shown.f
  refine ev_some (show keep_Of.f [0, 1, 2, 3, 4, 5] [3, 9, -1] 1 = some [1, 3, 5] by decide +kernel) ?_
  refine Ev.bind (same_row [1, 3, 5] [1, 3, 5] (by decide)) (ev_if_pos (by decide) ?_)
  refine Ev.bind (keepFloor_ev [2, 4] 5 (by decide)) ?_
  rw [show floorOf [2, 4] 5 = 1 by decide +kernel]
  exact Ev.now _

end Go.Proofs.Ytdmgbgobfkjeiaa.F
