-- YtdmgbgobfkjeiaaPSeekEach
import Derived.Test.YtdmgbgobfkjeiaaBase
import Derived.Test.YtdmgbgobfkjeiaaFEpitomelaw19SeekEach
import Derived.Test.YtdmgbgobfkjeiaaHSeek
import Derived.Test.YtdmgbgobfkjeiaaPRef18
import Derived.Test.YtdmgbgobfkjeiaaPSeek19
import Derived.Test.YtdmgbgobfkjeiaaSSeekEach
namespace Go.Proofs.Ytdmgbgobfkjeiaa.F
open Go.RowKit Go.Proofs.YtdmgbgobfkjeiaaW.PrintWords Go.Proofs.YtdmgbgobfkjeiaaW.PrintLast Go.Proofs.YtdmgbgobfkjeiaaW.PrintMore
set_option linter.unusedVariables false
set_option linter.unusedSimpArgs false
theorem each_inner {w : List Int} (h : Row w) (i : Nat) (hi : i < w.length) (next : Ev (fun k => epitomelaw19_SeekEach.l0 k true w ((i : Int) + 1)) true) : ∀ d (r : Int), 0 ≤ r → w.getD i 0 < r → (i + 1 < w.length → (w.getD (i + 1) 0 - r).toNat = d) → (i + 1 = w.length → d = 0) → r ≤ 200 →
    Ev (fun k => epitomelaw19_SeekEach.l1 k true w i r) true := by
  intro d
  have hf := h.few
  induction d with
  | zero =>
    intro r hr0 hr1 hd hd2 hr2
    refine Ev.step (fun k => by rw [epitomelaw19_SeekEach.l1]) ?_
    rw [w64 (x := (i : Int) + 1) (by omega) (by omega)]
    have last : Ev (fun k => epitomelaw19_SeekEach.j3 k true w i r false) true := by
      refine Ev.step (fun k => by rw [epitomelaw19_SeekEach.j3]) (ev_if_neg (by simp) ?_)
      rw [w64 (x := (i : Int) + 1) (by omega) (by omega)]
      exact next
    by_cases h1 : (i : Int) + 1 < w.length
    · refine ev_if_pos h1 (ev_if_pos (by omega) ?_)
      rw [rd_of (show (i : Int) + 1 = ((i + 1 : Nat) : Int) by omega)]
      have := hd (by omega)
      rw [decide_eq_false (by omega)]
      exact last
    · exact ev_if_neg h1 last
  | succ d ih =>
    intro r hr0 hr1 hd hd2 hr2
    have h1 : i + 1 < w.length := by
      rcases Nat.lt_or_ge (i + 1) w.length with h1 | h1
      · exact h1
      · have := hd2 (by omega); omega
    have h2 := hd h1
    have hs := h.small (i + 1) h1
    refine Ev.step (fun k => by rw [epitomelaw19_SeekEach.l1]) ?_
    rw [w64 (x := (i : Int) + 1) (by omega) (by omega)]
    refine ev_if_pos (by omega) (ev_if_pos (by omega) ?_)
    rw [rd_of (show (i : Int) + 1 = ((i + 1 : Nat) : Int) by omega), decide_eq_true (by omega)]
    refine Ev.step (fun k => by rw [epitomelaw19_SeekEach.j3]) (ev_if_pos rfl ?_)
    refine ev_some (seek_told h r) ?_
    rw [told_between h r i hi (by omega) (fun _ => by omega) (fun e => by omega)]
    refine ev_if_pos rfl (ev_if_pos (by omega) (ev_if_pos (by omega) (ev_if_pos (by rw [rd_nat]) ?_)))
    simp only
    rw [if_neg (show ¬ w.getD i 0 = r by omega)]
    refine ev_if_pos rfl ?_
    rw [w64 (x := r + 1) (by omega) (by omega)]
    exact ih (r + 1) (by omega) (by omega) (fun _ => by omega) (fun e => by omega) (by omega)

theorem each_outer {w : List Int} (h : Row w) : ∀ d (i : Nat), w.length - i = d → i ≤ w.length → Ev (fun k => epitomelaw19_SeekEach.l0 k true w i) true := by
  intro d
  have hf := h.few
  have hp := h.pos
  induction d with
  | zero =>
    intro i hd hi
    refine Ev.step (fun k => by rw [epitomelaw19_SeekEach.l0]) (ev_if_neg (by omega) ?_)
    rw [w64 (x := (w.length : Int) - 1) (by omega) (by omega), rd_of (show (w.length : Int) - 1 = ((w.length - 1 : Nat) : Int) by omega), rd_of (show (0 : Int) = ((0 : Nat) : Int) by rfl)]
    have s1 := h.small (w.length - 1) (by omega)
    have s0 := h.small 0 hp
    rw [w64 (x := w.getD (w.length - 1) 0 + 1) (by omega) (by omega), w64 (x := w.getD 0 0 - 1) (by omega) (by omega)]
    refine ev_if_pos (by omega) (ev_if_pos (by omega) (ev_some (seek_told h _) (ev_if_pos (by omega) (ev_some (seek_told h _) ?_))))
    have t1 : told w (w.getD (w.length - 1) 0 + 1) = (0, 0, 6) := by unfold told; rw [if_pos (by omega)]
    have t2 : told w (w.getD 0 0 - 1) = (0, 0, 11) := by
      unfold told
      have a0 : above (w.getD 0 0 - 1) w = 0 := by
        have := above_iff h.rises (w.getD 0 0 - 1) 0 hp
        omega
      have : ¬ w.getD (w.length - 1) 0 < w.getD 0 0 - 1 := by
        rcases Nat.eq_zero_or_pos (w.length - 1) with e | e
        · rw [e]; omega
        · have := h.rises 0 (w.length - 1) e (by omega); omega
      rw [if_neg this, if_pos a0]
    rw [t1, t2]
    exact ev_if_pos rfl (ev_if_pos rfl (ev_if_pos rfl (ev_if_pos rfl (ev_if_pos rfl (ev_if_pos rfl (Ev.now _))))))
  | succ d ih =>
    intro i hd hi
    refine Ev.step (fun k => by rw [epitomelaw19_SeekEach.l0]) (ev_if_pos (by omega) (ev_if_pos (by omega) ?_))
    rw [rd_nat]
    have hs := h.small i (by omega)
    refine ev_some (seek_told h _) ?_
    rw [told_between h _ i (by omega) (Int.le_refl _) (fun h2 => h.rises i (i + 1) (by omega) h2) (fun _ => rfl)]
    refine ev_if_pos rfl (ev_if_pos rfl ?_)
    simp only [if_true]
    refine Ev.step (fun k => by rw [epitomelaw19_SeekEach.j1]) (ev_if_neg (by simp) (ev_if_pos (by omega) (ev_if_pos (by omega) ?_)))
    rw [rd_nat, w64 (x := w.getD i 0 + 1) (by omega) (by omega)]
    exact each_inner h i (by omega) (by have := ih (i + 1) (by omega) (by omega); simpa using this) (if i + 1 < w.length then (w.getD (i + 1) 0 - (w.getD i 0 + 1)).toNat else 0) _ (by omega) (by omega) (fun h1 => by rw [if_pos h1]) (fun h1 => by rw [if_neg (by omega)]) (by omega)

theorem Pure.SeekEach : epitomelaw19_SeekEach.Pure := by
  intro l0 h0
  obtain ⟨w, hw, hr⟩ := fit_row l0 h0
  apply Ev.rounds
  unfold epitomelaw19_SeekEach.f
  exact ev_some shown19 (Ev.bind hw (each_outer hr w.length 0 (by omega) (by omega)))

end Go.Proofs.Ytdmgbgobfkjeiaa.F
