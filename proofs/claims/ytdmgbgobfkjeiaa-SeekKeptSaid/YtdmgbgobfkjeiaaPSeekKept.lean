-- YtdmgbgobfkjeiaaPSeekKept
import Derived.Test.YtdmgbgobfkjeiaaBase
import Derived.Test.YtdmgbgobfkjeiaaFEpitomelaw19SeekKept
import Derived.Test.YtdmgbgobfkjeiaaHKeep
import Derived.Test.YtdmgbgobfkjeiaaHSeek
import Derived.Test.YtdmgbgobfkjeiaaPEv
import Derived.Test.YtdmgbgobfkjeiaaPKeep18
import Derived.Test.YtdmgbgobfkjeiaaPRef18
import Derived.Test.YtdmgbgobfkjeiaaSSeekKept
namespace Go.Proofs.Ytdmgbgobfkjeiaa.F
open Go.RowKit Go.Proofs.YtdmgbgobfkjeiaaW.PrintWords Go.Proofs.YtdmgbgobfkjeiaaW.PrintLast Go.Proofs.YtdmgbgobfkjeiaaW.PrintMore
set_option linter.unusedVariables false
set_option linter.unusedSimpArgs false
/-! What is kept of a row, and what is found of it. -/
theorem seek_rises {w : List Int} (hr : Rising w) (hp : 0 < w.length) (r : Int) : seek_Find.f w r = some (told w r) := by
  have hle := above_le r w
  have hl : w.getD (w.length - 1) 0 ≤ r ↔ above r w = w.length := by
    rw [above_iff hr r (w.length - 1) (by omega)]
    omega
  have e2 : rd w ((w.length : Int) - 1) = w.getD (w.length - 1) 0 := rd_of (by omega)
  unfold told
  by_cases h1 : w.getD (w.length - 1) 0 < r
  · rw [if_pos h1, seek_find_beyond w r (hl.1 (by omega)) (by rw [e2]; omega) (by omega)]
  · rw [if_neg h1]
    by_cases h2 : above r w = 0
    · rw [if_pos h2, seek_find_old w r h2 (by omega)]
    · rw [if_neg h2, seek_find_at w r (by omega) (by rw [e2]; rintro ⟨h3, h4⟩; have := hl.2 h3; omega)]
      rw [rd_of (show (above r w : Int) - 1 = ((above r w - 1 : Nat) : Int) by omega)]

/-- The revisions: 0 to m. -/
def revs (n : Nat) : List Int := (List.range n).map (fun i : Nat => (i : Int))
theorem revs_length (n : Nat) : (revs n).length = n := by simp [revs]
theorem revs_getD (n i : Nat) (h : i < n) : (revs n).getD i 0 = (i : Int) := by
  unfold revs
  rw [List.getD_eq_getElem?_getD, List.getElem?_map, List.getElem?_range h]
  rfl
theorem revs_rising (n : Nat) : Rising (revs n) := by
  intro i j hij hj
  rw [revs_length] at hj
  rw [revs_getD n i (by omega), revs_getD n j hj]
  omega
theorem revs_snoc (n : Nat) : revs (n + 1) = revs n ++ [(n : Int)] := by
  unfold revs
  rw [List.range_succ, List.map_append]
  rfl
theorem revs_int (n : Nat) (h : n ≤ 1000) : (revs n).all isInt = true := by
  rw [List.all_eq_true]
  intro x hx
  unfold revs at hx
  obtain ⟨i, hi, rfl⟩ := List.mem_map.1 hx
  have := List.mem_range.1 hi
  unfold isInt
  simp
  omega
theorem revs_drop_mem (n fl : Nat) (x : Int) : x ∈ (revs n).drop fl ↔ (fl : Int) ≤ x ∧ x < (n : Int) := by
  constructor
  · intro h
    obtain ⟨i, hi⟩ := List.getElem?_of_mem h
    rw [List.getElem?_drop] at hi
    have hlt : fl + i < n := by
      have := (List.getElem?_eq_some_iff.1 hi).1
      rwa [revs_length] at this
    have hx := revs_getD n (fl + i) hlt
    rw [List.getD_eq_getElem?_getD, hi] at hx
    simp at hx
    omega
  · rintro ⟨h1, h2⟩
    have hx := revs_getD n x.toNat (by omega)
    rw [List.getD_eq_getElem?_getD] at hx
    have hlt : x.toNat < (revs n).length := by rw [revs_length]; omega
    rw [List.getElem?_eq_getElem hlt] at hx
    refine List.mem_of_getElem? (i := x.toNat - fl) ?_
    rw [List.getElem?_drop, show fl + (x.toNat - fl) = x.toNat by omega, List.getElem?_eq_getElem hlt]
    simp at hx
    rw [hx]
    congr 1
    omega

/-- What is known of the row K that is kept of the revisions 0 to m, from fl on, with s. -/
structure KFit (K s : List Int) (m fl : Nat) : Prop where
  rises : Rising K
  pos : 0 < K.length
  few : K.length ≤ m + 1
  head : K.getD 0 0 = (fl : Int)
  last : K.getD (K.length - 1) 0 = (m : Int)
  mem : ∀ x : Int, x ∈ K ↔ ((fl : Int) ≤ x ∧ x ≤ (m : Int)) ∧ (x = (fl : Int) ∨ x = (m : Int) ∨ x ∈ s)
theorem kfit (s : List Int) (m fl : Nat) (h : fl ≤ m) : KFit (keptOf ((revs (m + 1)).drop fl) s) s m fl := by
  have hl : ((revs (m + 1)).drop fl).length = m + 1 - fl := by rw [List.length_drop, revs_length]
  have hp : 0 < ((revs (m + 1)).drop fl).length := by omega
  have e0 : ((revs (m + 1)).drop fl).getD 0 0 = (fl : Int) := by rw [getD_drop, revs_getD _ _ (by omega)]; simp
  have e1 : ((revs (m + 1)).drop fl).getD (((revs (m + 1)).drop fl).length - 1) 0 = (m : Int) := by rw [hl, getD_drop, revs_getD _ _ (by omega)]; omega
  obtain ⟨h1, h2, h3⟩ := kept_ends hp s
  have hr := rising_pairwise.1 (rising_drop (revs_rising (m + 1)) fl)
  refine ⟨rising_pairwise.2 (kept_rising hr s), h1, ?_, by rw [h2, e0], by rw [h3, e1], ?_⟩
  · have : (keptOf ((revs (m + 1)).drop fl) s).length ≤ _ := List.length_filter_le _ _
    omega
  · intro x
    rw [kept_mem, revs_drop_mem, rd_of (show (0 : Int) = ((0 : Nat) : Int) by rfl), rd_last hp, e0, e1]
    constructor
    · rintro ⟨⟨a, b⟩, c⟩; exact ⟨⟨a, by omega⟩, c⟩
    · rintro ⟨⟨a, b⟩, c⟩; exact ⟨⟨a, by omega⟩, c⟩

theorem getD_memK {l : List Int} {i : Nat} (h : i < l.length) : l.getD i 0 ∈ l := by
  rw [List.getD_eq_getElem?_getD, List.getElem?_eq_getElem h]
  exact List.getElem_mem h

section
variable {K s : List Int} {m fl : Nat}
/-- What stands behind a round's tests. -/
theorem round_end (w : List Int) (v : Bool) (r : Int) (x13 x14 : Int) (x19 : Bool) (h : x19 = true ∨ (x13 = 0 ∧ x14 = 0)) (hn : Ev (fun k => epitomelaw19_SeekKept.l1 k true w s K (wrap64 (r + 1))) v) :
    Ev (fun k => epitomelaw19_SeekKept.j8 k true w s K r x13 x14 x19 false) v := by
  refine Ev.step (f := fun k => _) (fun k => by rw [epitomelaw19_SeekKept.j8, if_neg (by simp)]) ?_
  by_cases c : x19 = true
  · exact ev_if_pos c hn
  · refine ev_if_neg c ?_
    rcases h with h | ⟨h1, h2⟩
    · exact absurd h c
    · exact ev_if_pos h1 (ev_if_pos h2 hn)
theorem round_l2 (w : List Int) (hK : KFit K s m fl) (hs : s.length ≤ 30) (r : Int) (x13 x14 x15 : Int) (v : Bool) : ∀ (q p : List Int) (b : Bool), s = p ++ q →
    Ev (fun k => epitomelaw19_SeekKept.j5 k true w s K r x13 x14 x15 (if (b || (q.contains r && decide (r > (fl : Int)))) = true then 0 else 10)) v →
    Ev (fun k => epitomelaw19_SeekKept.l2 k true w s K r x13 x14 x15 b (p.length : Int)) v
  | [], p, b, h, hv => by
    refine Ev.step (f := fun k => _) (fun k => by rw [epitomelaw19_SeekKept.l2, if_neg (by rw [h]; simp)]) ?_
    cases b
    · exact ev_if_neg (by simp) (by simpa using hv)
    · exact ev_if_pos rfl (by simpa using hv)
  | x :: q, p, b, h, hv => by
    have hll : p.length + (q.length + 1) = s.length := by rw [h]; simp
    have hrd : rd s (p.length : Int) = x := by rw [rd_nat, h]; simp [List.getD_eq_getElem?_getD]
    have hk0 : rd K 0 = (fl : Int) := by rw [rd_of (show (0 : Int) = ((0 : Nat) : Int) by rfl)]; exact hK.head
    have hp := hK.pos
    have next : ∀ b2, (b2 || (q.contains r && decide (r > (fl : Int)))) = (b || ((x :: q).contains r && decide (r > (fl : Int)))) → Ev (fun k => epitomelaw19_SeekKept.l2 k true w s K r x13 x14 x15 b2 ((p.length + 1 : Nat) : Int)) v := by
      intro b2 e
      have := round_l2 w hK hs r x13 x14 x15 v q (p ++ [x]) b2 (by simp [h]) (by rw [e]; exact hv)
      simpa using this
    refine Ev.step (f := fun k => _) (fun k => by rw [epitomelaw19_SeekKept.l2, if_pos (by omega), show wrap64 ((p.length : Int) + 1) = ((p.length + 1 : Nat) : Int) by rw [w64 (by omega) (by omega)]; omega]) ?_
    cases b
    · refine ev_if_neg (by simp) (ev_if_pos (by omega) ?_)
      rw [hrd, hk0]
      by_cases hx : x = r
      · refine ev_if_pos hx (ev_if_pos (by omega) (next _ ?_))
        subst hx
        cases hd : decide (x > (fl : Int)) <;> simp
      · refine ev_if_neg hx (next _ ?_)
        have : r ≠ x := fun e => hx e.symm
        simp [this]
    · exact ev_if_pos rfl (next _ (by simp))
theorem round_is (hK : KFit K s m fl) (hm : m ≤ 40) (hf : fl ≤ m) (hs : s.length ≤ 30) (r : Int) (h1 : -1 ≤ r) (h2 : r ≤ (m : Int) + 1) (v : Bool)
    (hn : Ev (fun k => epitomelaw19_SeekKept.l1 k true (revs (m + 1)) s K (r + 1)) v) : Ev (fun k => epitomelaw19_SeekKept.l1 k true (revs (m + 1)) s K r) v := by
  have hp := hK.pos
  have hfew := hK.few
  have hk0 : rd K 0 = (fl : Int) := by rw [rd_of (show (0 : Int) = ((0 : Nat) : Int) by rfl)]; exact hK.head
  have hw1 : wrap64 (r + 1) = r + 1 := w64 (by omega) (by omega)
  rw [← hw1] at hn
  have hle := above_le r K
  have h0 := above_iff hK.rises r 0 hp
  rw [hK.head] at h0
  -- the tests behind the scan
  have tests : ∀ (x13 x14 x15 x18 : Int), told K r = (x13, x14, x15) → (if r ≥ (m : Int) + 1 then (6 : Int) else if r < (fl : Int) then 11 else x18) = x15 →
      Ev (fun k => epitomelaw19_SeekKept.j5 k true (revs (m + 1)) s K r x13 x14 x15 x18) v := by
    intro x13 x14 x15 x18 ht hw
    refine Ev.step (f := fun k => _) (fun k => by rw [epitomelaw19_SeekKept.j5, hk0, revs_length]) ?_
    unfold told at ht
    rw [hK.last] at ht
    by_cases c1 : r ≥ (m : Int) + 1
    · rw [if_pos c1] at hw
      rw [if_pos (by omega)] at ht
      injection ht with a1 ht; injection ht with a2 a3
      subst a1 a2 a3
      refine ev_if_pos (by omega) ?_
      refine Ev.step (f := fun k => _) (fun k => by rw [epitomelaw19_SeekKept.j6]) (ev_if_pos rfl (ev_if_neg (by decide) ?_))
      refine Ev.step (f := fun k => _) (fun k => by rw [epitomelaw19_SeekKept.j7, if_neg (by decide)]) ?_
      exact round_end _ v r 0 0 _ (.inr ⟨rfl, rfl⟩) hn
    · rw [if_neg c1] at hw
      rw [if_neg (by omega)] at ht
      refine ev_if_neg (by omega) (ev_if_pos (by omega) ?_)
      by_cases c2 : r < (fl : Int)
      · rw [if_pos c2] at hw
        rw [if_pos (by omega)] at ht
        injection ht with a1 ht; injection ht with a2 a3
        subst a1 a2 a3
        refine ev_if_pos c2 ?_
        refine Ev.step (f := fun k => _) (fun k => by rw [epitomelaw19_SeekKept.j6]) (ev_if_pos rfl (ev_if_neg (by decide) ?_))
        refine Ev.step (f := fun k => _) (fun k => by rw [epitomelaw19_SeekKept.j7, if_neg (by decide)]) ?_
        exact round_end _ v r 0 0 _ (.inr ⟨rfl, rfl⟩) hn
      · rw [if_neg c2] at hw
        rw [if_neg (by omega)] at ht
        injection ht with a1 ht; injection ht with a2 a3
        subst hw
        have ha : 0 < above r K := h0.1 (by omega)
        have hat : (above r K - 1) < K.length := by omega
        have hnear := (above_iff hK.rises r (above r K - 1) hat).2 (by omega)
        refine ev_if_neg c2 ?_
        have j7 : Ev (fun k => epitomelaw19_SeekKept.j7 k true (revs (m + 1)) s K r x13 x14 true) v := by
          subst a1 a2
          have hrd : rd K ((above r K : Int) - 1) = K.getD (above r K - 1) 0 := rd_of (by omega)
          refine Ev.step (f := fun k => _) (fun k => by rw [epitomelaw19_SeekKept.j7, if_pos rfl]) ?_
          refine ev_if_neg (by omega) (ev_if_neg (by omega) (ev_if_pos (by omega) (ev_if_pos (by omega) (ev_if_pos hrd (ev_if_neg (by omega) ?_)))))
          rw [show wrap64 ((above r K : Int) - 1 + 1) = (above r K : Int) by rw [w64 (by omega) (by omega)]; omega]
          by_cases c3 : (above r K : Int) < (K.length : Int)
          · refine ev_if_pos c3 (ev_if_pos (by omega) ?_)
            have := above_iff hK.rises r (above r K) (by omega)
            rw [rd_nat, decide_eq_false (by omega)]
            exact round_end _ v r _ _ _ (.inl rfl) hn
          · refine ev_if_neg c3 ?_
            exact round_end _ v r _ _ _ (.inl rfl) hn
        refine Ev.step (f := fun k => _) (fun k => by rw [epitomelaw19_SeekKept.j6]) (ev_if_pos rfl ?_)
        by_cases c4 : K.getD (above r K - 1) 0 = r
        · rw [if_pos c4] at a3
          subst a3
          exact ev_if_pos rfl j7
        · rw [if_neg c4] at a3
          subst a3
          exact ev_if_neg (by decide) j7
  -- what is wanted is what is told
  have same : ∀ (b : Bool) (x13 x14 x15 : Int), told K r = (x13, x14, x15) → (b = true ↔ (r = (fl : Int) ∨ r = (m : Int))) →
      (if r ≥ (m : Int) + 1 then (6 : Int) else if r < (fl : Int) then 11 else (if (b || (s.contains r && decide (r > (fl : Int)))) = true then 0 else 10)) = x15 := by
    intro b x13 x14 x15 ht hb
    unfold told at ht
    rw [hK.last] at ht
    by_cases c1 : r ≥ (m : Int) + 1
    · rw [if_pos (by omega)] at ht
      injection ht with a1 ht; injection ht with a2 a3
      rw [if_pos c1]; exact a3
    · rw [if_neg (by omega)] at ht
      rw [if_neg c1]
      by_cases c2 : r < (fl : Int)
      · rw [if_pos (by omega)] at ht
        injection ht with a1 ht; injection ht with a2 a3
        rw [if_pos c2]; exact a3
      · rw [if_neg (by omega)] at ht
        injection ht with a1 ht; injection ht with a2 a3
        rw [if_neg c2, ← a3]
        have ha : 0 < above r K := h0.1 (by omega)
        have hat : (above r K - 1) < K.length := by omega
        have hiff : K.getD (above r K - 1) 0 = r ↔ r ∈ K := by
          constructor
          · intro e
            have := getD_memK hat
            rwa [e] at this
          · intro e
            obtain ⟨i, hi⟩ := List.getElem?_of_mem e
            have hlt := (List.getElem?_eq_some_iff.1 hi).1
            have hg : K.getD i 0 = r := by rw [List.getD_eq_getElem?_getD, hi]; rfl
            have hia := (above_iff hK.rises r i hlt).1 (by omega)
            have hnear := (above_iff hK.rises r (above r K - 1) hat).2 (by omega)
            rcases Nat.lt_or_ge i (above r K - 1) with c | c
            · have := hK.rises i (above r K - 1) c hat
              omega
            · have : i = above r K - 1 := by omega
              rw [← this, hg]
        have hmem := hK.mem r
        have key : (b || (s.contains r && decide (r > (fl : Int)))) = true ↔ K.getD (above r K - 1) 0 = r := by
          rw [hiff, hmem, Bool.or_eq_true, hb, Bool.and_eq_true, decide_eq_true_iff, List.contains_iff_mem]
          constructor
          · rintro ((e | e) | ⟨e1, e2⟩)
            · exact ⟨⟨by omega, by omega⟩, .inl e⟩
            · exact ⟨⟨by omega, by omega⟩, .inr (.inl e)⟩
            · exact ⟨⟨by omega, by omega⟩, .inr (.inr e1)⟩
          · rintro ⟨_, e | e | e⟩
            · exact .inl (.inl e)
            · exact .inl (.inr e)
            · by_cases c : r = (fl : Int)
              · exact .inl (.inl c)
              · exact .inr ⟨e, by omega⟩
        by_cases c4 : K.getD (above r K - 1) 0 = r
        · rw [if_pos c4, if_pos (key.2 c4)]
        · rw [if_neg c4, if_neg (fun h => c4 (key.1 h))]
  obtain ⟨x13, x14, x15, ht⟩ : ∃ x13 x14 x15, told K r = (x13, x14, x15) := ⟨_, _, _, rfl⟩
  have go : ∀ b : Bool, (b = true ↔ (r = (fl : Int) ∨ r = (m : Int))) → Ev (fun k => epitomelaw19_SeekKept.j3 k true (revs (m + 1)) s K r x13 x14 x15 b) v := by
    intro b hb
    refine Ev.step (f := fun k => _) (fun k => by rw [epitomelaw19_SeekKept.j3]) ?_
    exact round_l2 (revs (m + 1)) hK hs r x13 x14 x15 v s [] b rfl (tests _ _ _ _ ht (same b x13 x14 x15 ht hb))
  have hfind := seek_rises hK.rises hp r
  rw [ht] at hfind
  refine Ev.step (f := fun k => _) (fun k => by rw [epitomelaw19_SeekKept.l1, if_pos (by rw [revs_length]; omega)]) ?_
  refine ev_some hfind (ev_if_pos (by omega) ?_)
  rw [hk0, revs_length, show wrap64 (((m + 1 : Nat) : Int) - 1) = (m : Int) by rw [w64 (by omega) (by omega)]; omega]
  by_cases c : r = (fl : Int)
  · exact ev_if_pos c (go true (by simp [c]))
  · exact ev_if_neg c (go _ (by simp; omega))
theorem rounds_is (hK : KFit K s m fl) (hm : m ≤ 40) (hf : fl ≤ m) (hs : s.length ≤ 30) : ∀ (n : Nat) (r : Int), r + (n : Int) = (m : Int) + 2 → -1 ≤ r → Ev (fun k => epitomelaw19_SeekKept.l1 k true (revs (m + 1)) s K r) true
  | 0, r, h, _ => by
    refine Ev.step (f := fun _ => some true) (fun k => ?_) (Ev.now _)
    rw [epitomelaw19_SeekKept.l1, if_neg (by rw [revs_length]; omega)]
  | n + 1, r, h, h1 => round_is hK hm hf hs r h1 (by omega) true (rounds_is hK hm hf hs n (r + 1) (by omega) (by omega))
end
theorem Pure.SeekKept : epitomelaw19_SeekKept.Pure := by
  intro a0 l1 a2 b0 h1 b2
  apply Ev.rounds
  have r0 := wf_u8 b0
  have hw : wrap64 a0 = a0 := w64 (by omega) (by omega)
  have t0 : 0 ≤ Int.tmod a0 41 := Int.tmod_nonneg _ r0.1
  have t1 : Int.tmod a0 41 < 41 := Int.tmod_lt_of_pos _ (by decide)
  obtain ⟨m, hm⟩ : ∃ m : Nat, Int.tmod a0 41 = (m : Int) := ⟨(Int.tmod a0 41).toNat, by omega⟩
  have hm40 : m ≤ 40 := by omega
  have hs : (l1.take 30).length ≤ 30 := by rw [List.length_take]; omega
  have hmn : mn (l1.length : Int) 30 = ((min l1.length 30 : Nat) : Int) := by rw [mn_eq]; omega
  have htake : l1.take (mn (l1.length : Int) 30).toNat = l1.take 30 := by
    rw [hmn, Int.toNat_natCast]
    rcases Nat.le_total l1.length 30 with h | h
    · rw [Nat.min_eq_left h, List.take_of_length_le h, List.take_length]
    · rw [Nat.min_eq_right h]
  have hlt := floorOf_lt (revs (m + 1)) a2 (by rw [revs_length]; omega)
  rw [revs_length] at hlt
  have hK := kfit (l1.take 30) m (floorOf (revs (m + 1)) a2) (by omega)
  have hfew := hK.few
  have hpos := hK.pos
  have hof : keep_Of.f (revs (m + 1)) (l1.take 30) a2 = some (keptOf ((revs (m + 1)).drop (floorOf (revs (m + 1)) a2)) (l1.take 30)) :=
    keepOf_is a2 (by rw [revs_length]; omega) (by rw [revs_length]; omega) (by omega) (revs_int _ (by omega)) (all_isInt (fun x hx => h1.2 x (List.mem_of_mem_take hx)))
  clear t0 t1 r0
  have loop : ∀ (n i : Nat), i + n = m + 1 → Ev (fun k => epitomelaw19_SeekKept.l0 k a0 l1 a2 true (revs i) (i : Int)) true := by
    intro n
    induction n with
    | zero =>
      intro i hi
      have hi : i = m + 1 := hi
      subst hi
      refine Ev.step (f := fun k => _) (fun k => by rw [epitomelaw19_SeekKept.l0, hw, hm, if_neg (by omega)]) ?_
      rw [htake]
      refine ev_if_pos (by omega) (ev_if_pos (by omega) (ev_some rfl (ev_some hof ?_)))
      refine ev_if_neg (by omega) ?_
      rw [decide_eq_false (by rw [revs_length]; omega)]
      refine Ev.step (f := fun k => _) (fun k => by rw [epitomelaw19_SeekKept.j1, if_neg (by simp)]) ?_
      exact rounds_is hK hm40 (by omega) hs (m + 3) (-1) (by omega) (by omega)
    | succ n ih =>
      intro i hi
      have := ih (i + 1) (by omega)
      rw [revs_snoc] at this
      refine Ev.step (fun k => ?_) this
      rw [epitomelaw19_SeekKept.l0, hw, hm, if_pos (by omega), if_pos (by rw [revs_length]; omega), show wrap64 ((i : Int) + 1) = ((i + 1 : Nat) : Int) by rw [w64 (by omega) (by omega)]; omega]
  unfold epitomelaw19_SeekKept.f
  exact ev_some shown19 (loop (m + 1) 0 (by omega))

end Go.Proofs.Ytdmgbgobfkjeiaa.F
