-- YtdmgbgobfkjeiaaPKeepAll
import Derived.Test.YtdmgbgobfkjeiaaBase
import Derived.Test.YtdmgbgobfkjeiaaFEpitomelaw18KeepAll
import Derived.Test.YtdmgbgobfkjeiaaFEpitomeref18Floor
import Derived.Test.YtdmgbgobfkjeiaaFEpitomeref18Of
import Derived.Test.YtdmgbgobfkjeiaaHKeep
import Derived.Test.YtdmgbgobfkjeiaaHSeek
import Derived.Test.YtdmgbgobfkjeiaaPKeep18
import Derived.Test.YtdmgbgobfkjeiaaPRef18
import Derived.Test.YtdmgbgobfkjeiaaSKeepAll
namespace Go.Proofs.Ytdmgbgobfkjeiaa.F
open Go.RowKit Go.Proofs.YtdmgbgobfkjeiaaW.PrintWords Go.Proofs.YtdmgbgobfkjeiaaW.PrintLast Go.Proofs.YtdmgbgobfkjeiaaW.PrintMore
set_option linter.unusedVariables false
set_option linter.unusedSimpArgs false
theorem refFloor_loop {w : List Int} (h : Row w) (f : Int) : ∀ d (i : Nat) (a : Int), w.length - i = d → i ≤ w.length → a = ((min i (above f w) - 1 : Nat) : Int) → Ev (fun k => epitomeref18_Floor.l0 k w f a i) (floorOf w f : Int) := by
  intro d
  have hf := h.few
  have hle := above_le f w
  induction d with
  | zero =>
    intro i a hd hi ha
    refine Ev.step (fun k => by rw [epitomeref18_Floor.l0]) (ev_if_neg (by omega) ?_)
    rw [show a = (floorOf w f : Int) by rw [ha]; unfold floorOf; congr 1; omega]
    exact Ev.now _
  | succ d ih =>
    intro i a hd hi ha
    refine Ev.step (fun k => by rw [epitomeref18_Floor.l0]) (ev_if_pos (by omega) (ev_if_pos (by omega) ?_))
    rw [rd_nat, w64 (x := (i : Int) + 1) (by omega) (by omega)]
    have hiff := above_iff h.rises f i (by omega)
    by_cases c : w.getD i 0 ≤ f
    · refine ev_if_pos c (ih (i + 1) i (by omega) (by omega) ?_)
      have := hiff.1 c
      omega
    · refine ev_if_neg c (ih (i + 1) a (by omega) (by omega) ?_)
      have : ¬ i < above f w := fun h' => c (hiff.2 h')
      omega
theorem refFloor_ev {w : List Int} (h : Row w) (f : Int) : Ev (fun k => epitomeref18_Floor.f k w f) (floorOf w f : Int) := refFloor_loop h f w.length 0 0 (by omega) (by omega) (by simp)

theorem rising_inj {w : List Int} (h : Rising w) {i j : Nat} (hi : i < w.length) (hj : j < w.length) (e : w.getD i 0 = w.getD j 0) : i = j := by
  rcases Nat.lt_trichotomy i j with c | c | c
  · have := h i j c hj; omega
  · exact c
  · have := h j i c hi; omega

theorem refOf_loop {w s : List Int} (h : Row w) (hs : s.length ≤ maxLen) (fl : Nat) (hfl : fl < w.length) : ∀ d (i : Nat) (xs : List Int), w.length - i = d → fl ≤ i → i ≤ w.length → xs = ((w.take i).drop fl).filter (wants (w.drop fl) s) →
    Ev (fun k => epitomeref18_Of.l0 k w s xs fl i) (keptOf (w.drop fl) s) := by
  intro d
  have hf := h.few
  induction d with
  | zero =>
    intro i xs hd h1 hi hx
    refine Ev.step (fun k => by rw [epitomeref18_Of.l0]) (ev_if_neg (by omega) ?_)
    rw [List.take_of_length_le (by omega)] at hx
    rw [hx]
    exact Ev.now _
  | succ d ih =>
    intro i xs hd h1 hi hx
    have hil : i < w.length := by omega
    have hxl : xs.length ≤ 30 := by
      have h2 := List.length_filter_le (wants (w.drop fl) s) ((w.take i).drop fl)
      rw [← hx] at h2
      simp at h2
      omega
    have hnext : ((w.take (i + 1)).drop fl).filter (wants (w.drop fl) s) = xs ++ (if wants (w.drop fl) s (w.getD i 0) = true then [w.getD i 0] else []) := by
      rw [List.take_succ_eq_append_getElem hil, List.drop_append_of_le_length (by simp; omega), List.filter_append, ← hx]
      have e : w.getD i 0 = w[i] := by simp [List.getD_eq_getElem?_getD, hil]
      rw [e]
      by_cases c : wants (w.drop fl) s w[i] = true
      · simp [List.filter_cons, c]
      · simp [List.filter_cons, c]
    have hfirst : rd (w.drop fl) 0 = w.getD fl 0 := by rw [rd_of (show (0 : Int) = ((0 : Nat) : Int) by rfl), getD_drop]; simp
    have hlast : rd (w.drop fl) ((w.drop fl).length - 1) = w.getD (w.length - 1) 0 := by
      rw [rd_last (by rw [List.length_drop]; omega), getD_drop]
      congr 1
      rw [List.length_drop]
      omega
    refine Ev.step (fun k => by rw [epitomeref18_Of.l0]) (ev_if_pos (by omega) ?_)
    rw [w64 (x := (w.length : Int) - 1) (by omega) (by omega), w64 (x := (i : Int) + 1) (by omega) (by omega), rd_nat]
    have take : wants (w.drop fl) s (w.getD i 0) = true → Ev (fun k => epitomeref18_Of.l0 k w s (xs ++ [w.getD i 0]) fl ((i : Int) + 1)) (keptOf (w.drop fl) s) := fun hw => by
      have := ih (i + 1) (xs ++ [w.getD i 0]) (by omega) (by omega) (by omega) (by rw [hnext, if_pos hw])
      simpa using this
    by_cases c1 : (i : Int) = fl
    · refine ev_if_pos c1 (ev_if_pos (by omega) (ev_if_pos (by omega) (take ?_)))
      have : i = fl := by omega
      subst this
      unfold wants
      rw [hfirst]
      simp
    · refine ev_if_neg c1 ?_
      by_cases c2 : (i : Int) = (w.length : Int) - 1
      · refine ev_if_pos c2 (ev_if_pos (by omega) (ev_if_pos (by omega) (take ?_)))
        unfold wants
        rw [hlast, show w.length - 1 = i by omega]
        simp
      · refine ev_if_neg c2 (ev_if_pos (by omega) (Ev.bind (ref_in s hs _) ?_))
        have hw : wants (w.drop fl) s (w.getD i 0) = s.contains (w.getD i 0) := by
          unfold wants
          rw [hfirst, hlast]
          have n1 : (w.getD i 0 == w.getD fl 0) = false := beq_eq_false_iff_ne.2 fun e => c1 (by have := rising_inj h.rises hil hfl e; omega)
          have n2 : (w.getD i 0 == w.getD (w.length - 1) 0) = false := beq_eq_false_iff_ne.2 fun e => c2 (by have := rising_inj h.rises hil (by omega) e; omega)
          rw [n1, n2]
          simp
        cases c3 : s.contains (w.getD i 0) with
        | true => exact ev_if_pos rfl (ev_if_pos (by omega) (take (by rw [hw, c3])))
        | false =>
          refine ev_if_neg (by simp) ?_
          have := ih (i + 1) xs (by omega) (by omega) (by omega) (by rw [hnext, hw, c3]; simp)
          simpa using this

theorem refOf_ev {w s : List Int} (h : Row w) (hs : s.length ≤ maxLen) (f : Int) : Ev (fun k => epitomeref18_Of.f k w s f) (keptOf (w.drop (floorOf w f)) s) := by
  have hlt := floorOf_lt w f h.pos
  unfold epitomeref18_Of.f
  exact Ev.bind (refFloor_ev h f) (refOf_loop h hs _ hlt _ _ [] rfl (Nat.le_refl _) (by omega) (by simp))

theorem take_wf {l : List Int} (h : l.length ≤ maxLen ∧ ∀ x ∈ l, (Lit.int .i64 x).wf = true) (n : Nat) : (l.take n).length ≤ maxLen ∧ ∀ x ∈ l.take n, (Lit.int .i64 x).wf = true :=
  ⟨by rw [List.length_take]; omega, fun x hx => h.2 x (List.mem_of_mem_take hx)⟩

theorem Pure.KeepAll : epitomelaw18_KeepAll.Pure := by
  intro l0 l1 a2 h0 h1 h2
  obtain ⟨w, hw, hr⟩ := fit_row l0 h0
  have hf := hr.few
  have hwm : w.length ≤ maxLen := by unfold maxLen; omega
  have ht := take_wf h1 30
  have htl : (l1.take 30).length ≤ 30 := List.length_take_le _ _
  apply Ev.rounds
  unfold epitomelaw18_KeepAll.f
  refine Ev.bind shown18 (Ev.bind hw (ev_if_pos rfl (Ev.bind (keepFloor_ev w a2 hwm) (Ev.bind (refFloor_ev hr a2) (ev_if_pos rfl ?_)))))
  refine ev_some (few18 l1) (ev_some (keepOf_is a2 hr.pos (by omega) (by omega) hr.ints (all_isInt ht.2)) (ev_some (few18 l1) (Ev.bind (refOf_ev hr ht.1 a2) ?_)))
  refine Ev.bind (same_row _ _ (by have := List.length_filter_le (wants (w.drop (floorOf w a2)) (l1.take 30)) (w.drop (floorOf w a2)); rw [List.length_drop] at this; unfold maxLen keptOf; omega)) ?_
  rw [decide_eq_true rfl]
  exact Ev.now _

end Go.Proofs.Ytdmgbgobfkjeiaa.F
