-- YtdmgbgobfkjeiaaHSeek
import Derived.Test.YtdmgbgobfkjeiaaBase
namespace Go.Proofs.Ytdmgbgobfkjeiaa.F
open Go.RowKit Go.Proofs.YtdmgbgobfkjeiaaW.PrintWords Go.Proofs.YtdmgbgobfkjeiaaW.PrintLast Go.Proofs.YtdmgbgobfkjeiaaW.PrintMore
set_option linter.unusedVariables false
set_option linter.unusedSimpArgs false
-- HAND epitome/seek.Find | seek_Find | rounds=0 making=1
-- SKIP slices.IndexFunc[[]int,int]
-- SKIP epitome/seek.Find$1
/-! seek.Find and what it leans on: the closure, slices.IndexFunc at it. -/
theorem seek_Find1.calls (x r : Int) (B : Nat) (w : World) (hc : w.cell? ⟨B, 0, none⟩ = some (.int .i64 r)) :
    Calls Try.prog 25 #[.int .i64 x, .pointer (some ⟨B, 0, none⟩)] w fun e w' => e = .returned (.bool (decide (r < x))) ∧ w = w' := by
  go_enter Try.func25, Try.ntmps25
  go_wp2
  go_ret
  exact ⟨rfl, rfl⟩

/-- How many stand ahead of the first one above r. -/
def above (r : Int) (l : List Int) : Nat := l.findIdx (fun x => decide (r < x))

theorem above_le (r : Int) (l : List Int) : above r l ≤ l.length := List.findIdx_le_length

theorem above_step (r : Int) (l : List Int) (i : Nat) (h : i ≤ above r l) (hi : i < l.length) (hp : decide (r < l.getD i 0) = false) : i + 1 ≤ above r l := by
  rcases Nat.lt_or_ge i (above r l) with h1 | h1
  · exact h1
  · have e : i = above r l := by omega
    have hlt : l.findIdx (fun x => decide (r < x)) < l.length := by unfold above at e; omega
    have := List.findIdx_getElem (w := hlt)
    unfold above at e
    subst e
    rw [List.getD_eq_getElem?_getD, List.getElem?_eq_getElem hlt] at hp
    simp at hp this
    omega

theorem above_here (r : Int) (l : List Int) (i : Nat) (h : i ≤ above r l) (hi : i < l.length) (hp : decide (r < l.getD i 0) = true) : above r l = i := by
  rcases Nat.lt_or_ge i (above r l) with h1 | h1
  · have := List.not_of_lt_findIdx h1
    rw [List.getD_eq_getElem?_getD, List.getElem?_eq_getElem hi] at hp
    simp at hp this
    omega
  · omega

def indexAbove (r : Int) (l : List Int) : Int := if above r l < l.length then (above r l : Int) else -1

set_option maxHeartbeats 1000000 in
theorem slices_IndexFunc.calls (A0 : Option Addr) (c0 : Nat) (l0 : List Int) (r : Int) (B : Nat) (w : World) (hr0 : Kd.C (Kd.int .i64) w A0 l0.length l0) (hc0 : l0.length ≤ c0) (hc : w.cell? ⟨B, 0, none⟩ = some (.int .i64 r)) :
    Calls Try.prog 24 #[.slice A0 l0.length c0, .func (.func 25) #[] #[.pointer (some ⟨B, 0, none⟩)]] w fun e w' => e = .returned (.int .i64 (indexAbove r l0)) ∧ w = w' := by
  have HR0 := Aside0.mk hr0
  have HC0 := Aside0.mk hc0
  have HM : Aside0 (l0.length ≤ 9223372036854775807) := ⟨hr0.2.1⟩
  have HC := Aside0.mk hc
  clear hr0 hc0 hc
  go_enter Try.func24, Try.ntmps24
  go_wp2
  go_loopg [8] l0.length (fun kq v8 w' => ∃ i : Nat, v8 = .int .i64 i ∧ Aside0 (i ≤ above r l0) ∧ Aside0 (kq = l0.length - i) ∧ w = w')
  case atStart => exact ⟨0, rfl, ⟨Nat.zero_le _⟩, ⟨rfl⟩, rfl⟩
  case round =>
    obtain ⟨i, rfl, HA, HK, rfl⟩ := hrel
    have hm := HM.out
    have hle := above_le r l0
    by_cases hi : i < l0.length
    · obtain ⟨ad, e, hx⟩ := Kd.at_int HR0.out i (by omega) (by omega)
      cases e
      have hcl := HC.out
      simp only [Int.toNat_natCast] at hx
      cases hd : decide (r < rd l0 i) with
      | true =>
        have HH := Aside0.mk (above_here r l0 i HA.out hi hd)
        clear hle
        go_wp2_with (go_at_call 25; refine (seek_Find1.calls _ r B _ hcl).mono ?_; rintro e w' ⟨rfl, rfl⟩)
        go_ret
        refine ⟨?_, rfl⟩
        unfold indexAbove
        rw [HH.out, if_pos hi]; rfl
      | false =>
        have HH := Aside0.mk (above_step r l0 i HA.out hi hd)
        clear hle
        go_wp2_with (go_at_call 25; refine (seek_Find1.calls _ r B _ hcl).mono ?_; rintro e w' ⟨rfl, rfl⟩)
        go_roundg (l0.length - (i + 1))
        case measure => have := HK.out; omega
        case rel => exact ⟨i + 1, by go_num, HH, ⟨rfl⟩, rfl⟩
    · have HH := Aside0.mk HA.out
      clear hle
      go_wp2
      go_ret
      refine ⟨?_, rfl⟩
      unfold indexAbove
      rw [if_neg (by have := HH.out; omega)]; rfl

/-- Where a revision is: its place, the nearest one, the error. -/
def seek_Find.f (l : List Int) (r : Int) : Option (Int × Int × Int) :=
  if l.length = 0 ∨ above r l = l.length ∧ l.getD (l.length - 1) 0 ≠ r then some (0, 0, 6)
  else if above r l = 0 then some (0, 0, 11)
  else some (above r l - 1, l.getD (above r l - 1) 0, if l.getD (above r l - 1) 0 = r then 0 else 10)

theorem above_facts (r : Int) (l : List Int) : 0 ≤ indexAbove r l ∧ indexAbove r l < l.length ∨ indexAbove r l = -1 := by
  unfold indexAbove
  split <;> omega

theorem seek_find_nil (l : List Int) (r : Int) (h : l.length = 0) : seek_Find.f l r = some (0, 0, 6) := by unfold seek_Find.f; rw [if_pos (.inl h)]
theorem seek_find_beyond (l : List Int) (r : Int) (h : above r l = l.length) (hl : rd l (l.length - 1) ≠ r) (hn : l.length ≠ 0) : seek_Find.f l r = some (0, 0, 6) := by
  unfold seek_Find.f
  have e2 : rd l ((l.length : Int) - 1) = l.getD (l.length - 1) 0 := by unfold rd; rw [show ((l.length : Int) - 1).toNat = l.length - 1 by omega]
  rw [if_pos (.inr ⟨h, fun e => hl (e2.trans e)⟩)]
theorem seek_find_old (l : List Int) (r : Int) (h : above r l = 0) (hn : l.length ≠ 0) : seek_Find.f l r = some (0, 0, 11) := by
  unfold seek_Find.f
  rw [if_neg (by omega), if_pos h]
theorem seek_find_at (l : List Int) (r : Int) (hn : 0 < above r l) (hb : ¬ (above r l = l.length ∧ rd l (l.length - 1) ≠ r)) : seek_Find.f l r = some ((above r l : Int) - 1, rd l ((above r l : Int) - 1), if rd l ((above r l : Int) - 1) = r then 0 else 10) := by
  have := above_le r l
  have e1 : rd l ((above r l : Int) - 1) = l.getD (above r l - 1) 0 := by unfold rd; rw [show ((above r l : Int) - 1).toNat = above r l - 1 by omega]
  have e2 : rd l ((l.length : Int) - 1) = l.getD (l.length - 1) 0 := by unfold rd; rw [show ((l.length : Int) - 1).toNat = l.length - 1 by omega]
  unfold seek_Find.f
  rw [if_neg (fun h => h.elim (fun h => by omega) (fun h => hb ⟨h.1, by rw [e2]; exact h.2⟩)), if_neg (by omega), e1]

set_option maxHeartbeats 2000000 in
theorem seek_Find.calls (A0 : Option Addr) (c0 : Nat) (l0 : List Int) (a1 : Int) (r1 r2 r3 : Int) (w : World) (hr0 : Kd.C (Kd.int .i64) w A0 l0.length l0) (hc0 : l0.length ≤ c0) (h : seek_Find.f l0 a1 = some (r1, r2, r3)) :
    Calls Try.prog 21 #[.slice A0 l0.length c0, .int .i64 a1] w fun e w' => e = .returned (.tuple #[.int .i64 r1, .int .i64 r2, .int .i64 r3]) ∧ Below w.heap.size w w' := by
  have HR0 := Aside0.mk hr0
  have HC0 := Aside0.mk hc0
  have HM : Aside0 (l0.length ≤ 9223372036854775807) := ⟨hr0.2.1⟩
  have hmf : ∀ (fn : Fn) (first cap : Array Value) (w : World), (Instr.makeFunc fn first cap).run Try.prog w = .ok (.func fn first cap) w := fun _ _ _ _ => rfl
  clear hr0 hc0
  have hle := above_le a1 l0
  have hm := HM.out
  by_cases hn : l0.length = 0
  · rw [seek_find_nil l0 a1 hn] at h
    obtain ⟨rfl, rfl, rfl⟩ : 0 = r1 ∧ 0 = r2 ∧ 6 = r3 := by simpa using h
    have ha : indexAbove a1 l0 = -1 := by unfold indexAbove; rw [if_neg (by omega)]
    have h1 : decide (indexAbove a1 l0 < 0) = true := by rw [ha]; rfl
    have h3 : ((l0.length : Int) == 0) = true := by simp [hn]
    clear hle hn ha h
    go_enter Try.func21, Try.ntmps21
    go_wp2_with (go_at_call 24; (with_reducible refine (slices_IndexFunc.calls _ _ _ a1 _ _ ?side1 ?side2 ?side3).mono ?_); (case side1 => exact Kd.C_alloc HR0.out _); (case side2 => exact HC0.out); (case side3 => go_cell); rintro e w' ⟨rfl, rfl⟩)
    repeat (go_quiet (fail); try go_wp2)
    go_ret3
    exact ⟨rfl, by repeat (first | exact Below.refl _ _ | apply below_alloc | apply pw_below_drewN | apply below_drew1)⟩
  · have h3 : ((l0.length : Int) == 0) = false := by simp; intro e; exact hn (by simp [e])
    by_cases hb : above a1 l0 = l0.length
    · have ha : indexAbove a1 l0 = -1 := by unfold indexAbove; rw [if_neg (by omega)]
      have h1 : decide (indexAbove a1 l0 < 0) = true := by rw [ha]; rfl
      have hw : wrap64 ((l0.length : Int) - 1) = (l0.length : Int) - 1 := by unfold wrap64; omega
      obtain ⟨ad, e, hx⟩ := Kd.at_int HR0.out (wrap64 ((l0.length : Int) - 1)) (by omega) (by omega)
      cases e
      replace hx := ((below_alloc (Below.refl w.heap.size w) (Obj.cells #[.int .i64 a1] 3)).cell (World.block_lt_of_cell? w _ hx)).trans hx
      have i0 := eq_true (show 0 ≤ wrap64 ((l0.length : Int) - 1) by omega)
      have i1 := eq_true (show wrap64 ((l0.length : Int) - 1) < l0.length by omega)
      by_cases hv : rd l0 (wrap64 ((l0.length : Int) - 1)) = a1
      · have hv2 : (rd l0 (wrap64 ((l0.length : Int) - 1)) != a1) = false := by simp [hv]
        rw [seek_find_at l0 a1 (by omega) (by rintro ⟨_, h⟩; exact h (hw ▸ hv)), hb, if_pos (hw ▸ hv), ← hw] at h
        obtain ⟨rfl, rfl, rfl⟩ : wrap64 ((l0.length : Int) - 1) = r1 ∧ rd l0 (wrap64 ((l0.length : Int) - 1)) = r2 ∧ 0 = r3 := by simpa using h
        clear hle ha h hb hv hn hw hm
        go_enter Try.func21, Try.ntmps21
        go_wp2_with (go_at_call 24; (with_reducible refine (slices_IndexFunc.calls _ _ _ a1 _ _ ?side1 ?side2 ?side3).mono ?_); (case side1 => exact Kd.C_alloc HR0.out _); (case side2 => exact HC0.out); (case side3 => go_cell); rintro e w' ⟨rfl, rfl⟩)
        repeat (go_quiet (fail); try go_wp2)
        go_ret3
        exact ⟨rfl, by repeat (first | exact Below.refl _ _ | apply below_alloc | apply pw_below_drewN | apply below_drew1)⟩
      · have hv2 : (rd l0 (wrap64 ((l0.length : Int) - 1)) != a1) = true := by simp [hv]
        rw [seek_find_beyond l0 a1 hb (hw ▸ hv) hn] at h
        obtain ⟨rfl, rfl, rfl⟩ : 0 = r1 ∧ 0 = r2 ∧ 6 = r3 := by simpa using h
        clear hle ha h hb hv hn hw hm
        go_enter Try.func21, Try.ntmps21
        go_wp2_with (go_at_call 24; (with_reducible refine (slices_IndexFunc.calls _ _ _ a1 _ _ ?side1 ?side2 ?side3).mono ?_); (case side1 => exact Kd.C_alloc HR0.out _); (case side2 => exact HC0.out); (case side3 => go_cell); rintro e w' ⟨rfl, rfl⟩)
        repeat (go_quiet (fail); try go_wp2)
        go_ret3
        exact ⟨rfl, by repeat (first | exact Below.refl _ _ | apply below_alloc | apply pw_below_drewN | apply below_drew1)⟩
    · have hlt : above a1 l0 < l0.length := Nat.lt_of_le_of_ne hle hb
      have ha : indexAbove a1 l0 = above a1 l0 := by unfold indexAbove; rw [if_pos hlt]
      have h1 : decide (indexAbove a1 l0 < 0) = false := by rw [ha]; simp
      have h4 : (indexAbove a1 l0 == (l0.length : Int)) = false := by rw [ha]; simp; omega
      by_cases hz : above a1 l0 = 0
      · have h5 : (indexAbove a1 l0 == 0) = true := by rw [ha, hz]; rfl
        rw [seek_find_old l0 a1 hz hn] at h
        obtain ⟨rfl, rfl, rfl⟩ : 0 = r1 ∧ 0 = r2 ∧ 11 = r3 := by simpa using h
        clear hle ha h hb hn hm hz hlt
        go_enter Try.func21, Try.ntmps21
        go_wp2_with (go_at_call 24; (with_reducible refine (slices_IndexFunc.calls _ _ _ a1 _ _ ?side1 ?side2 ?side3).mono ?_); (case side1 => exact Kd.C_alloc HR0.out _); (case side2 => exact HC0.out); (case side3 => go_cell); rintro e w' ⟨rfl, rfl⟩)
        repeat (go_quiet (fail); try go_wp2)
        go_ret3
        exact ⟨rfl, by repeat (first | exact Below.refl _ _ | apply below_alloc | apply pw_below_drewN | apply below_drew1)⟩
      · have h5 : (indexAbove a1 l0 == 0) = false := by rw [ha]; simp; exact hz
        have hw : wrap64 (indexAbove a1 l0 - 1) = (above a1 l0 : Int) - 1 := by rw [ha]; unfold wrap64; omega
        obtain ⟨ad, e, hx⟩ := Kd.at_int HR0.out (wrap64 (indexAbove a1 l0 - 1)) (by omega) (by omega)
        cases e
        replace hx := ((below_alloc (Below.refl w.heap.size w) (Obj.cells #[.int .i64 a1] 3)).cell (World.block_lt_of_cell? w _ hx)).trans hx
        have i0 := eq_true (show 0 ≤ wrap64 (indexAbove a1 l0 - 1) by omega)
        have i1 := eq_true (show wrap64 (indexAbove a1 l0 - 1) < l0.length by omega)
        rw [seek_find_at l0 a1 (by omega) (by rintro ⟨h, _⟩; exact hb h), ← hw] at h
        by_cases hv : rd l0 (wrap64 (indexAbove a1 l0 - 1)) = a1
        · have hv2 : (rd l0 (wrap64 (indexAbove a1 l0 - 1)) != a1) = false := by simp [hv]
          rw [if_pos hv] at h
          obtain ⟨rfl, rfl, rfl⟩ : wrap64 (indexAbove a1 l0 - 1) = r1 ∧ rd l0 (wrap64 (indexAbove a1 l0 - 1)) = r2 ∧ 0 = r3 := by simpa using h
          clear hle ha h hb hn hm hz hlt hw hv
          go_enter Try.func21, Try.ntmps21
          go_wp2_with (go_at_call 24; (with_reducible refine (slices_IndexFunc.calls _ _ _ a1 _ _ ?side1 ?side2 ?side3).mono ?_); (case side1 => exact Kd.C_alloc HR0.out _); (case side2 => exact HC0.out); (case side3 => go_cell); rintro e w' ⟨rfl, rfl⟩)
          repeat (go_quiet (fail); try go_wp2)
          go_ret3
          exact ⟨rfl, by repeat (first | exact Below.refl _ _ | apply below_alloc | apply pw_below_drewN | apply below_drew1)⟩
        · have hv2 : (rd l0 (wrap64 (indexAbove a1 l0 - 1)) != a1) = true := by simp [hv]
          rw [if_neg hv] at h
          obtain ⟨rfl, rfl, rfl⟩ : wrap64 (indexAbove a1 l0 - 1) = r1 ∧ rd l0 (wrap64 (indexAbove a1 l0 - 1)) = r2 ∧ 10 = r3 := by simpa using h
          clear hle ha h hb hn hm hz hlt hw hv
          go_enter Try.func21, Try.ntmps21
          go_wp2_with (go_at_call 24; (with_reducible refine (slices_IndexFunc.calls _ _ _ a1 _ _ ?side1 ?side2 ?side3).mono ?_); (case side1 => exact Kd.C_alloc HR0.out _); (case side2 => exact HC0.out); (case side3 => go_cell); rintro e w' ⟨rfl, rfl⟩)
          repeat (go_quiet (fail); try go_wp2)
          go_ret3
          exact ⟨rfl, by repeat (first | exact Below.refl _ _ | apply below_alloc | apply pw_below_drewN | apply below_drew1)⟩

end Go.Proofs.Ytdmgbgobfkjeiaa.F
