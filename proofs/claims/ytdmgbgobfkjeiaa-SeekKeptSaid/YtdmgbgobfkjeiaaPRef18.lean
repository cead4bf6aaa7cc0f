-- YtdmgbgobfkjeiaaPRef18
import Derived.Test.YtdmgbgobfkjeiaaBase
import Derived.Test.YtdmgbgobfkjeiaaFEpitomelaw19Shown
import Derived.Test.YtdmgbgobfkjeiaaFEpitomeref18Fit
import Derived.Test.YtdmgbgobfkjeiaaFEpitomeref19Find
import Derived.Test.YtdmgbgobfkjeiaaHSeek
import Derived.Test.YtdmgbgobfkjeiaaPEv
namespace Go.Proofs.Ytdmgbgobfkjeiaa.F
open Go.RowKit Go.Proofs.YtdmgbgobfkjeiaaW.PrintWords Go.Proofs.YtdmgbgobfkjeiaaW.PrintLast Go.Proofs.YtdmgbgobfkjeiaaW.PrintMore
set_option linter.unusedVariables false
set_option linter.unusedSimpArgs false
/-! Plain laws of rows that rise, and of the reference's functions on them. -/
def Rising (w : List Int) : Prop := ∀ i j : Nat, i < j → j < w.length → w.getD i 0 < w.getD j 0
/-- What the reference's Fit makes: a row that rises, of 1 to 30 small numbers. -/
structure Row (w : List Int) : Prop where
  rises : Rising w
  pos : 0 < w.length
  few : w.length ≤ 30
  small : ∀ i : Nat, i < w.length → 0 ≤ w.getD i 0 ∧ w.getD i 0 ≤ 120

theorem getD_append_left {xs ys : List Int} {i : Nat} (h : i < xs.length) : (xs ++ ys).getD i 0 = xs.getD i 0 := by
  simp [List.getD_eq_getElem?_getD, List.getElem?_append_left h]
theorem getD_append_last {xs : List Int} {y : Int} : (xs ++ [y]).getD xs.length 0 = y := by
  simp [List.getD_eq_getElem?_getD]

theorem step_range (x : Int) (h : -9223372036854775808 ≤ x) (h2 : x ≤ 9223372036854775807) : 0 ≤ Int.tmod (wrap64 (Int.tmod x 4 + 4)) 4 ∧ Int.tmod (wrap64 (Int.tmod x 4 + 4)) 4 ≤ 3 := by
  have h1 : -4 < Int.tmod x 4 := by have := Int.lt_tmod_of_pos x (show (0 : Int) < 4 by decide); omega
  have h3 : Int.tmod x 4 < 4 := Int.tmod_lt_of_pos x (by decide)
  rw [w64 (by omega) (by omega)]
  rw [Int.tmod_eq_emod_of_nonneg (by omega)]
  omega

theorem fit_loop (l : List Int) (hl : l.length ≤ maxLen) (hw : ∀ x ∈ l, (Lit.int .i64 x).wf = true) : ∀ d (i : Nat) (xs : List Int) (a : Int), 30 - i = d → i ≤ 30 → i ≤ l.length → xs.length = i → -1 ≤ a → a ≤ 4 * i - 1 → Rising xs →
    (∀ j : Nat, j < xs.length → 0 ≤ xs.getD j 0 ∧ xs.getD j 0 ≤ a) →
    ∃ w, Ev (fun k => epitomeref18_Fit.l0 k l xs a i) w ∧ Row w := by
  intro d
  unfold maxLen at hl
  have stop : ∀ (xs : List Int) (a : Int) (i : Nat), xs.length = i → i ≤ 30 → a ≤ 4 * i - 1 → Rising xs → (∀ j : Nat, j < xs.length → 0 ≤ xs.getD j 0 ∧ xs.getD j 0 ≤ a) → ∃ w, Ev (fun _ : Nat => if (xs.length : Int) = 0 then (some (([0] : List Int))) else (some xs)) w ∧ Row w := by
    intro xs a i hxs hi ha hr hs
    by_cases h0 : (xs.length : Int) = 0
    · exact ⟨[0], ev_if_pos h0 (Ev.now _), ⟨fun i j h1 h2 => by simp at h2; omega, by simp, by simp, fun i h => by simp at h; subst h; simp⟩⟩
    · exact ⟨xs, ev_if_neg h0 (Ev.now _), ⟨hr, by omega, by omega, fun j hj => by have := hs j hj; omega⟩⟩
  induction d with
  | zero =>
    intro i xs a hd hi hl2 hxs ha1 ha2 hr hs
    obtain ⟨w, hw1, hw2⟩ := stop xs a i hxs hi ha2 hr hs
    refine ⟨w, Ev.step (fun k => by rw [epitomeref18_Fit.l0]) ?_, hw2⟩
    by_cases h1 : (i : Int) < l.length
    · exact ev_if_pos h1 (ev_if_neg (by omega) hw1)
    · exact ev_if_neg h1 hw1
  | succ d ih =>
    intro i xs a hd hi hl2 hxs ha1 ha2 hr hs
    by_cases h1 : (i : Int) < l.length
    · have hx := hw (rd l i) (by rw [rd_nat, List.getD_eq_getElem?_getD, List.getElem?_eq_getElem (by omega)]; exact List.getElem_mem _)
      obtain ⟨b1, b2⟩ := wf_bounds hx
      obtain ⟨s1, s2⟩ := step_range (rd l i) b1 b2
      obtain ⟨s, hs'⟩ : ∃ s, Int.tmod (wrap64 (Int.tmod (rd l i) 4 + 4)) 4 = s := ⟨_, rfl⟩
      rw [hs'] at s1 s2
      obtain ⟨w, h2, h3⟩ := ih (i + 1) (xs ++ [a + 1 + s]) (a + 1 + s) (by omega) (by omega) (by omega) (by simp [hxs]) (by omega) (by omega)
        (by
          intro p q hpq hq
          simp at hq
          by_cases e : q = xs.length
          · subst e
            rw [getD_append_last, getD_append_left (by omega)]
            have := (hs p (by omega)).2
            omega
          · rw [getD_append_left (by omega), getD_append_left (by omega)]
            exact hr p q hpq (by omega))
        (by
          intro j hj
          simp at hj
          by_cases e : j = xs.length
          · subst e; rw [getD_append_last]; omega
          · rw [getD_append_left (by omega)]; have := hs j (by omega); omega)
      refine ⟨w, Ev.step (fun k => by rw [epitomeref18_Fit.l0]) ?_, h3⟩
      refine ev_if_pos h1 (ev_if_pos (by omega) (ev_if_pos (by omega) (ev_if_pos (by omega) ?_)))
      rw [hs', w64 (x := a + 1) (by omega) (by omega), w64 (x := a + 1 + s) (by omega) (by omega), w64 (x := (i : Int) + 1) (by omega) (by omega)]
      exact h2
    · obtain ⟨w, hw1, hw2⟩ := stop xs a i hxs hi ha2 hr hs
      exact ⟨w, Ev.step (fun k => by rw [epitomeref18_Fit.l0]) (ev_if_neg h1 hw1), hw2⟩

theorem fit_row (l : List Int) (h : l.length ≤ maxLen ∧ ∀ x ∈ l, (Lit.int .i64 x).wf = true) : ∃ w, Ev (fun k => epitomeref18_Fit.f k l) w ∧ Row w := by
  obtain ⟨w, h1, h2⟩ := fit_loop l h.1 h.2 30 0 [] (-1) (by omega) (by omega) (by omega) rfl (by omega) (by omega) (fun i j _ h => by simp at h) (fun j h => by simp at h)
  exact ⟨w, h1, h2⟩

/-- In a row that rises those that are not above r stand ahead of the others. -/
theorem above_iff {w : List Int} (hr : Rising w) (r : Int) (i : Nat) (hi : i < w.length) : w.getD i 0 ≤ r ↔ i < above r w := by
  constructor
  · intro h
    rcases Nat.lt_or_ge i (above r w) with h1 | h1
    · exact h1
    · exfalso
      have hlt : w.findIdx (fun x => decide (r < x)) < w.length := by unfold above at h1; omega
      have h2 := List.findIdx_getElem (w := hlt)
      simp at h2
      unfold above at h1
      rcases Nat.lt_or_ge (w.findIdx (fun x => decide (r < x))) i with h3 | h3
      · have h5 := hr _ i h3 hi
        rw [List.getD_eq_getElem?_getD, List.getElem?_eq_getElem hlt, Option.getD_some] at h5
        omega
      · have e : i = w.findIdx (fun x => decide (r < x)) := by omega
        subst e
        rw [List.getD_eq_getElem?_getD, List.getElem?_eq_getElem hlt] at h
        simp at h
        omega
  · intro h
    have := List.not_of_lt_findIdx h
    rw [List.getD_eq_getElem?_getD, List.getElem?_eq_getElem hi]
    simp at this ⊢
    exact this

theorem seek_none (r : Int) : seek_Find.f [] r = some (0, 0, 6) := seek_find_nil [] r rfl

theorem refFind_loop (w : List Int) (r : Int) (hw : Row w) (n : Int) (hn : n = w.length) (ha : 0 < above r w) : ∀ d (i : Nat) (a : Int), w.length - i = d → i ≤ w.length → a = ((min i (above r w) - 1 : Nat) : Int) →
    Ev (fun k => epitomeref19_Find.l0 k w r n a i) ((above r w : Int) - 1, w.getD (above r w - 1) 0, if w.getD (above r w - 1) 0 = r then 0 else 10) := by
  intro d
  have hle := above_le r w
  have hfew := hw.few
  induction d with
  | zero =>
    intro i a hd hi hae
    refine Ev.step (fun k => by rw [epitomeref19_Find.l0]) ?_
    have e : a = ((above r w - 1 : Nat) : Int) := by rw [hae]; congr 1; omega
    refine ev_if_neg (by omega) (ev_if_pos (by omega) (ev_if_pos (by omega) ?_))
    rw [rd_of e]
    by_cases h : w.getD (above r w - 1) 0 = r
    · refine ev_if_pos h ?_
      rw [if_pos h, h, e, show ((above r w - 1 : Nat) : Int) = (above r w : Int) - 1 by omega]
      exact Ev.now _
    · refine ev_if_neg h ?_
      rw [if_neg h, e, show ((above r w - 1 : Nat) : Int) = (above r w : Int) - 1 by omega]
      exact Ev.now _
  | succ d ih =>
    intro i a hd hi hae
    refine Ev.step (fun k => by rw [epitomeref19_Find.l0]) ?_
    refine ev_if_pos (by omega) (ev_if_pos (by omega) (ev_if_pos (by omega) ?_))
    rw [rd_nat, w64 (x := (i : Int) + 1) (by omega) (by omega)]
    have hiff := above_iff hw.rises r i (by omega)
    by_cases h : w.getD i 0 ≤ r
    · refine ev_if_pos h (ih (i + 1) i (by omega) (by omega) ?_)
      have := hiff.1 h
      omega
    · refine ev_if_neg h (ih (i + 1) a (by omega) (by omega) ?_)
      have : ¬ i < above r w := fun h' => h (hiff.2 h')
      omega

/-- In a row that rises: what is told of a revision. -/
def told (w : List Int) (r : Int) : Int × Int × Int :=
  if w.getD (w.length - 1) 0 < r then (0, 0, 6) else if above r w = 0 then (0, 0, 11) else ((above r w : Int) - 1, w.getD (above r w - 1) 0, if w.getD (above r w - 1) 0 = r then 0 else 10)

theorem last_below {w : List Int} (hw : Row w) (r : Int) : w.getD (w.length - 1) 0 ≤ r ↔ above r w = w.length := by
  have hp := hw.pos
  have hle := above_le r w
  rw [above_iff hw.rises r (w.length - 1) (by omega)]
  omega

theorem seek_told {w : List Int} (hw : Row w) (r : Int) : seek_Find.f w r = some (told w r) := by
  have hp := hw.pos
  have hle := above_le r w
  have hl := last_below hw r
  have e2 : rd w ((w.length : Int) - 1) = w.getD (w.length - 1) 0 := rd_of (by omega)
  unfold told
  by_cases h1 : w.getD (w.length - 1) 0 < r
  · rw [if_pos h1, seek_find_beyond w r (hl.1 (by omega)) (by rw [e2]; omega) (by omega)]
  · rw [if_neg h1]
    by_cases h2 : above r w = 0
    · rw [if_pos h2, seek_find_old w r h2 (by omega)]
    · rw [if_neg h2, seek_find_at w r (by omega) (by rw [e2]; rintro ⟨h3, h4⟩; have := hl.2 h3; omega)]
      rw [rd_of (show (above r w : Int) - 1 = ((above r w - 1 : Nat) : Int) by omega)]

theorem refFind_told {w : List Int} (hw : Row w) (r : Int) : Ev (fun k => epitomeref19_Find.f k w r) (told w r) := by
  have hp := hw.pos
  have hf := hw.few
  have hle := above_le r w
  have hl := last_below hw r
  unfold told epitomeref19_Find.f
  rw [w64 (x := (w.length : Int) - 1) (by omega) (by omega), rd_of (show (w.length : Int) - 1 = ((w.length - 1 : Nat) : Int) by omega)]
  refine ev_if_neg (by omega) (ev_if_pos (by omega) (ev_if_pos (by omega) ?_))
  refine Ev.step (fun k => by rw [epitomeref19_Find.j0]) ?_
  by_cases h1 : w.getD (w.length - 1) 0 < r
  · rw [if_pos h1]
    exact ev_if_pos (by simpa using h1) (Ev.now _)
  · rw [if_neg h1]
    refine ev_if_neg (by simpa using h1) (ev_if_pos (by omega) ?_)
    have h0 := above_iff hw.rises r 0 (by omega)
    rw [rd_of (show (0 : Int) = ((0 : Nat) : Int) by rfl)]
    by_cases h2 : above r w = 0
    · rw [if_pos h2]
      exact ev_if_pos (by omega) (Ev.now _)
    · rw [if_neg h2]
      exact ev_if_neg (by omega) (refFind_loop w r hw _ rfl (by omega) w.length 0 0 (by omega) (by omega) (by simp))

theorem shown19 : epitomelaw19_shown.f = some true := by decide +kernel

end Go.Proofs.Ytdmgbgobfkjeiaa.F
