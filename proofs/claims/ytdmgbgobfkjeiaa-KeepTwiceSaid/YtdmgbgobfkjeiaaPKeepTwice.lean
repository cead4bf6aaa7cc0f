-- YtdmgbgobfkjeiaaPKeepTwice
import Derived.Test.YtdmgbgobfkjeiaaBase
import Derived.Test.YtdmgbgobfkjeiaaFEpitomelaw18KeepTwice
import Derived.Test.YtdmgbgobfkjeiaaFEpitomeref15SameRow
import Derived.Test.YtdmgbgobfkjeiaaHKeep
import Derived.Test.YtdmgbgobfkjeiaaHSeek
import Derived.Test.YtdmgbgobfkjeiaaPKeep18
import Derived.Test.YtdmgbgobfkjeiaaPKeepAll
import Derived.Test.YtdmgbgobfkjeiaaPRef18
import Derived.Test.YtdmgbgobfkjeiaaSKeepTwice
namespace Go.Proofs.Ytdmgbgobfkjeiaa.F
open Go.RowKit Go.Proofs.YtdmgbgobfkjeiaaW.PrintWords Go.Proofs.YtdmgbgobfkjeiaaW.PrintLast Go.Proofs.YtdmgbgobfkjeiaaW.PrintMore
set_option linter.unusedVariables false
set_option linter.unusedSimpArgs false
theorem kept_length_le (m s : List Int) : (keptOf m s).length ≤ m.length := List.length_filter_le _ _

/-- The floor of what is left behind a floor: a higher one, told of the rest. -/
theorem floor_drop {w : List Int} (hw : Rising w) (hp : 0 < w.length) {f g : Int} (hfg : f ≤ g) : floorOf w f ≤ floorOf w g ∧ floorOf (w.drop (floorOf w f)) g = floorOf w g - floorOf w f := by
  have h1 := floorOf_lt w f hp
  have hm : above f w ≤ above g w := by
    have h2 := above_le f w
    have h3 := above_le g w
    rcases Nat.lt_or_ge (above g w) (above f w) with c | c
    · have := (above_iff hw f (above g w) (by omega)).2 c
      have := (above_iff hw g (above g w) (by omega)).1 (by omega)
      omega
    · exact c
  refine ⟨by unfold floorOf; omega, ?_⟩
  unfold floorOf at h1 ⊢
  rw [above_drop hw g _ (by omega)]
  omega

theorem Pure.KeepTwice : epitomelaw18_KeepTwice.Pure := by
  intro l0 l1 f1 f2 mb h0 h1 _ _ hb
  obtain ⟨hb0, hb1⟩ := wf_u8 hb
  obtain ⟨w, hw, hr⟩ := fit_row l0 h0
  have hf := hr.few
  have hp := hr.pos
  have ht := take_wf h1 30
  have htl : (l1.take 30).length ≤ 30 := List.length_take_le _ _
  obtain ⟨s, hs⟩ : ∃ s, l1.take 30 = s := ⟨_, rfl⟩
  rw [hs] at ht htl
  have hsi := all_isInt ht.2
  apply Ev.rounds
  unfold epitomelaw18_KeepTwice.f
  refine Ev.bind shown18 (Ev.bind hw (ev_some ((few18 l1).trans (by rw [hs])) ?_))
  rw [w64 (x := (s.length : Int) + 1) (by omega) (by omega), w64 (x := mb) (by omega) (by omega)]
  have hmod : Int.tmod mb ((s.length : Int) + 1) = mb % ((s.length : Int) + 1) := Int.tmod_eq_emod_of_nonneg hb0
  have hm0 : 0 ≤ mb % ((s.length : Int) + 1) := Int.emod_nonneg _ (by omega)
  have hm1 : mb % ((s.length : Int) + 1) < (s.length : Int) + 1 := Int.emod_lt_of_pos _ (by omega)
  rw [hmod]
  refine ev_if_neg (by omega) (ev_if_pos hm0 (ev_if_pos (by omega) ?_))
  obtain ⟨part, hpart⟩ : ∃ part, s.take (mb % ((s.length : Int) + 1)).toNat = part := ⟨_, rfl⟩
  rw [hpart]
  have hps : ∀ x ∈ part, x ∈ s := fun x hx => List.mem_of_mem_take (hpart ▸ hx)
  have hpl : part.length ≤ 30 := by rw [← hpart, List.length_take]; omega
  have hpi := all_sub hsi hps
  have pw := rising_pairwise.1 hr.rises
  have dp : ∀ f, 0 < (w.drop (floorOf w f)).length := fun f => by have := floorOf_lt w f hp; rw [List.length_drop]; omega
  have dpw : ∀ f, (w.drop (floorOf w f)).Pairwise (· < ·) := fun f => pw.sublist (List.drop_sublist _ _)
  have dl : ∀ f, (w.drop (floorOf w f)).length ≤ 30 := fun f => by rw [List.length_drop]; omega
  have di : ∀ f, (w.drop (floorOf w f)).all isInt = true := fun f => all_sub hr.ints (fun x hx => List.mem_of_mem_drop hx)
  have one := keepOf_is f1 hp (by omega) (show s.length < 17592186044416 by omega) hr.ints hsi
  refine ev_some rfl (ev_some one ?_)
  obtain ⟨o, ho⟩ : ∃ o, keptOf (w.drop (floorOf w f1)) s = o := ⟨_, rfl⟩
  have ol : o.length ≤ 30 := by rw [← ho]; exact Nat.le_trans (kept_length_le _ _) (dl f1)
  have op : 0 < o.length := by rw [← ho]; exact (kept_ends (dp f1) s).1
  have oi : o.all isInt = true := by rw [← ho]; exact all_sub (di f1) (fun x hx => (kept_mem.1 hx).1)
  have of : floorOf o f1 = 0 := by rw [← ho]; exact floor_kept hr.rises hp f1 s
  rw [ho]
  have same : keep_Of.f o s f1 = some o := by
    rw [keepOf_is f1 op (by omega) (by omega) oi hsi, of, List.drop_zero]
    congr 1
    rw [← ho]
    exact kept_part (dpw f1) (dp f1) (fun x hx => hx)
  have two : keep_Of.f o part f1 = some (keptOf (w.drop (floorOf w f1)) part) := by
    rw [keepOf_is f1 op (by omega) (by omega) oi hpi, of, List.drop_zero]
    congr 1
    rw [← ho]
    exact kept_part (dpw f1) (dp f1) hps
  have three := keepOf_is f1 hp (by omega) (show part.length < 17592186044416 by omega) hr.ints hpi
  refine ev_some same (ev_some two (ev_some three (ev_if_neg (by omega) (ev_some rfl (ev_if_pos (by simp; omega) (ev_some rfl (ev_if_pos (by simp; omega) ?_)))))))
  simp only [List.nil_append]
  have alli : (s ++ w).all isInt = true := by rw [List.all_append, hsi, hr.ints]; rfl
  have all : keep_Of.f w (s ++ w) f1 = some (w.drop (floorOf w f1)) := by
    rw [keepOf_is f1 hp (by omega) (by simp; omega) hr.ints alli]
    congr 1
    exact kept_all (dpw f1) (fun x hx => List.mem_append_right _ (List.mem_of_mem_drop hx))
  obtain ⟨fl1, fl2⟩ := floor_drop hr.rises hp (show f1 ≤ mx f1 f2 by rw [mx_eq]; omega)
  have high : keep_Of.f (w.drop (floorOf w f1)) part (mx f1 f2) = some (keptOf (w.drop (floorOf w (mx f1 f2))) part) := by
    rw [keepOf_is _ (dp f1) (by have := dl f1; omega) (by omega) (di f1) hpi, fl2, List.drop_drop, show floorOf w f1 + (floorOf w (mx f1 f2) - floorOf w f1) = floorOf w (mx f1 f2) by omega]
  have last := keepOf_is (mx f1 f2) hp (by omega) (show part.length < 17592186044416 by omega) hr.ints hpi
  refine ev_some all (ev_some high (ev_if_pos (by trivial) ?_))
  have sr : ∀ a : List Int, a.length ≤ 30 → Ev (fun k => epitomeref15_SameRow.f k a a) true := fun a ha => by
    have := same_row a a (by unfold maxLen; omega)
    rwa [decide_eq_true rfl] at this
  refine Ev.bind (sr o ol) (ev_if_pos (by trivial) (Ev.bind (sr _ (Nat.le_trans (kept_length_le _ _) (dl f1))) (ev_if_pos (by trivial) (ev_some last (Ev.bind (sr _ (Nat.le_trans (kept_length_le _ _) (dl _))) (Ev.now _))))))

end Go.Proofs.Ytdmgbgobfkjeiaa.F
