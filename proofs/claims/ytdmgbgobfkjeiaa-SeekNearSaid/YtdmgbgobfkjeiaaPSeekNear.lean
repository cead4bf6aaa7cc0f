-- YtdmgbgobfkjeiaaPSeekNear
import Derived.Test.YtdmgbgobfkjeiaaBase
import Derived.Test.YtdmgbgobfkjeiaaFEpitomelaw19SeekNear
import Derived.Test.YtdmgbgobfkjeiaaHSeek
import Derived.Test.YtdmgbgobfkjeiaaPRef18
import Derived.Test.YtdmgbgobfkjeiaaPSeek19
import Derived.Test.YtdmgbgobfkjeiaaSSeekNear
namespace Go.Proofs.Ytdmgbgobfkjeiaa.F
open Go.RowKit Go.Proofs.YtdmgbgobfkjeiaaW.PrintWords Go.Proofs.YtdmgbgobfkjeiaaW.PrintLast Go.Proofs.YtdmgbgobfkjeiaaW.PrintMore
set_option linter.unusedVariables false
set_option linter.unusedSimpArgs false
theorem Pure.SeekNear : epitomelaw19_SeekNear.Pure := by
  intro l0 a1 h0 h1
  obtain ⟨w, hw, h⟩ := fit_row l0 h0
  have hf := h.few
  have hp := h.pos
  have hle := above_le a1 w
  have hl := last_below h a1
  apply Ev.rounds
  unfold epitomelaw19_SeekNear.f
  refine ev_some shown19 (Ev.bind hw (ev_some (seek_told h a1) ?_))
  have e0 : rd w 0 = w.getD 0 0 := rd_of (by rfl)
  have e1 : rd w ((w.length : Int) - 1) = w.getD (w.length - 1) 0 := rd_of (by omega)
  rw [w64 (x := (w.length : Int) - 1) (by omega) (by omega), e0, e1]
  have ha0 := above_iff h.rises a1 0 hp
  have h01 : w.getD 0 0 ≤ w.getD (w.length - 1) 0 := by
    rcases Nat.eq_zero_or_pos (w.length - 1) with e | e
    · rw [e]; omega
    · have := h.rises 0 (w.length - 1) e (by omega); omega
  by_cases c1 : w.getD (w.length - 1) 0 < a1
  · rw [show told w a1 = (0, 0, 6) by unfold told; rw [if_pos c1]]
    refine ev_if_neg (by simp) (ev_if_pos rfl (ev_if_pos rfl (ev_if_pos rfl (ev_if_pos rfl (ev_if_pos (by omega) ?_)))))
    rw [decide_eq_false (show ¬ a1 < w.getD 0 0 by omega), decide_eq_true (show a1 > w.getD (w.length - 1) 0 by omega)]
    exact ev_if_pos rfl (ev_if_pos (by omega) (ev_if_pos (by omega) (Ev.now _)))
  · by_cases c2 : above a1 w = 0
    · rw [show told w a1 = (0, 0, 11) by unfold told; rw [if_neg c1, if_pos c2]]
      refine ev_if_pos rfl (ev_if_pos rfl (ev_if_pos rfl (ev_if_pos rfl (ev_if_pos (by omega) ?_))))
      rw [decide_eq_true (show a1 < w.getD 0 0 by omega), decide_eq_false (show ¬ a1 > w.getD (w.length - 1) 0 by omega)]
      exact ev_if_pos rfl (ev_if_pos (by omega) (ev_if_pos (by omega) (Ev.now _)))
    · obtain ⟨i, hi⟩ : ∃ i, above a1 w = i + 1 := ⟨above a1 w - 1, by omega⟩
      have hil : i < w.length := by omega
      have b1 := (above_iff h.rises a1 i hil).2 (by omega)
      have b2 : i + 1 < w.length → a1 < w.getD (i + 1) 0 := fun h2 => by have := above_iff h.rises a1 (i + 1) h2; omega
      have b3 : i + 1 = w.length → w.getD i 0 = a1 := fun h2 => by rw [show i = w.length - 1 by omega] at b1 ⊢; omega
      rw [told_between h a1 i hil b1 b2 b3]
      have n1 : ¬ (if w.getD i 0 = a1 then (0 : Int) else 10) = 11 := by split <;> decide
      have n2 : ¬ (if w.getD i 0 = a1 then (0 : Int) else 10) = 6 := by split <;> decide
      refine ev_if_neg n1 (ev_if_neg n2 (ev_some (seek_told h _) ?_))
      rw [told_between h (w.getD i 0) i hil (Int.le_refl _) (fun h2 => h.rises i (i + 1) (by omega) h2) (fun _ => rfl)]
      refine ev_if_pos rfl (ev_if_pos (by simp) (ev_if_pos rfl (ev_if_pos rfl (ev_if_pos b1 (ev_if_pos ?_ ?_)))))
      · by_cases e : w.getD i 0 = a1
        · rw [if_pos e, e]; simp
        · rw [if_neg e, beq_eq_false_iff_ne.2 e]; rfl
      · by_cases c3 : (i : Int) = (w.length : Int) - 1
        · exact ev_if_pos c3 (Ev.now _)
        · refine ev_if_neg c3 (ev_if_pos (by omega) (ev_if_pos (by omega) ?_))
          rw [w64 (x := (i : Int) + 1) (by omega) (by omega)]
          refine ev_if_pos (by omega) (ev_if_pos (by omega) ?_)
          rw [rd_of (show (i : Int) + 1 = ((i + 1 : Nat) : Int) by omega), decide_eq_true (show w.getD (i + 1) 0 > a1 from b2 (by omega))]
          exact Ev.now _

end Go.Proofs.Ytdmgbgobfkjeiaa.F
