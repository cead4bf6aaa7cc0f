-- YtidmodnfodifgaaPNormMore
import Derived.Test.YtidmodnfodifgaaBase
import Derived.Test.YtidmodnfodifgaaPEv
import Derived.Test.YtidmodnfodifgaaPFit04
import Derived.Test.YtidmodnfodifgaaPNormal
namespace Go.Proofs.Ytidmodnfodifgaa.F
open Go.RowKit Go.Proofs.YtidmodnfodifgaaW.PrintWords Go.Proofs.YtidmodnfodifgaaW.PrintLast Go.Proofs.YtidmodnfodifgaaW.PrintMore
set_option linter.unusedVariables false
set_option linter.unusedSimpArgs false
/-! The shortest form of rows put one behind the other. -/
theorem joinS_assoc (a b c : Sp) : joinS (joinS a b) c = joinS a (joinS b c) := by
  unfold joinS
  have e : wrap64 (wrap64 (a.f1 + b.f1) + c.f1) = wrap64 (a.f1 + wrap64 (b.f1 + c.f1)) := by unfold wrap64; omega
  simp only [e, ByteArray.append_assoc]
theorem runs_head (r : List Sp) (c : Sp) : ∃ d q, runs c r = d :: q ∧ d.f0 = c.f0 := by
  induction r generalizing c with
  | nil => exact ⟨c, [], rfl, rfl⟩
  | cons t r ih =>
    rw [runs]
    split
    · obtain ⟨d, q, e, h⟩ := ih (joinS c t)
      exact ⟨d, q, e, h⟩
    · exact ⟨c, _, rfl, rfl⟩
theorem merge_runs_left (b : List Sp) : ∀ (a : List Sp) (c : Sp), mergeS (runs c a ++ b) = runs c (a ++ b)
  | [], c => rfl
  | t :: r, c => by
    rw [List.cons_append, runs, runs]
    by_cases h : t.f0 = c.f0
    · rw [if_pos h, if_pos h]
      exact merge_runs_left b r (joinS c t)
    · rw [if_neg h, if_neg h]
      obtain ⟨d, q, e, hd⟩ := runs_head r t
      have ih := merge_runs_left b r t
      rw [e] at ih ⊢
      show runs c (d :: (q ++ b)) = _
      rw [runs, if_neg (by rw [hd]; exact h), ← ih]
      rfl
theorem merge_left (a b : List Sp) : mergeS (mergeS a ++ b) = mergeS (a ++ b) := by
  cases a with
  | nil => rfl
  | cons c a => exact merge_runs_left b a c
theorem merge_idem (r : List Sp) (t : Sp) : mergeS (runs t r) = runs t r := by
  have := merge_runs_left [] r t
  simpa using this
theorem runs_runs : ∀ (r : List Sp) (t c : Sp), runs c (runs t r) = runs c (t :: r)
  | [], t, c => rfl
  | u :: r, t, c => by
    by_cases hu : u.f0 = t.f0
    · have e1 : runs t (u :: r) = runs (joinS t u) r := by rw [runs, if_pos hu]
      rw [e1, runs_runs r (joinS t u) c]
      by_cases ht : t.f0 = c.f0
      · have e2 : runs c (joinS t u :: r) = runs (joinS c (joinS t u)) r := by rw [runs, if_pos (show (joinS t u).f0 = c.f0 from ht)]
        have e3 : runs c (t :: u :: r) = runs (joinS (joinS c t) u) r := by rw [runs, if_pos ht, runs, if_pos (by show u.f0 = c.f0; rw [hu, ht])]
        rw [e2, e3, joinS_assoc]
      · have e2 : runs c (joinS t u :: r) = c :: runs (joinS t u) r := by rw [runs, if_neg (show ¬ (joinS t u).f0 = c.f0 from ht)]
        have e3 : runs c (t :: u :: r) = c :: runs (joinS t u) r := by rw [runs, if_neg ht, runs, if_pos hu]
        rw [e2, e3]
    · have e1 : runs t (u :: r) = t :: runs u r := by rw [runs, if_neg hu]
      rw [e1]
      by_cases ht : t.f0 = c.f0
      · rw [runs, if_pos ht, runs_runs r u (joinS c t), runs, runs, if_pos ht]
        rw [runs]
      · have e3 : runs c (t :: u :: r) = c :: t :: runs u r := by rw [runs, if_neg ht, runs, if_neg hu]
        rw [e3, runs, if_neg ht]
        have := merge_idem r u
        have h2 := runs_runs r u t
        rw [h2, runs, if_neg hu]
theorem runs_right (b : List Sp) : ∀ (a : List Sp) (c : Sp), runs c (a ++ mergeS b) = runs c (a ++ b)
  | [], c => by
    cases b with
    | nil => rfl
    | cons t r => exact runs_runs r t c
  | t :: a, c => by
    rw [List.cons_append, List.cons_append, runs, runs, runs_right b a, runs_right b a]
theorem merge_right (a b : List Sp) : mergeS (a ++ mergeS b) = mergeS (a ++ b) := by
  cases a with
  | nil =>
    cases b with
    | nil => rfl
    | cons t r => exact merge_idem r t
  | cons c a => exact runs_right b a c

/-- A span of a number that is none below 0. -/
def sumN (l : List Sp) : Int := (l.map (fun s => s.f1)).sum
theorem joined_full {c t : Sp} (hc : emptyS c = false) (h0 : 0 ≤ c.f1) (h1 : 0 ≤ t.f1) (h2 : c.f1 + t.f1 ≤ 4611686018427387904) : emptyS (joinS c t) = false ∧ 0 ≤ (joinS c t).f1 ∧ (joinS c t).f1 = c.f1 + t.f1 := by
  have e : (joinS c t).f1 = c.f1 + t.f1 := by show wrap64 _ = _; exact w64 (by omega) (by omega)
  refine ⟨?_, by rw [e]; omega, e⟩
  unfold emptyS at hc ⊢
  rw [e]
  by_cases hz : c.f1 = 0
  · have ht : c.f2.toList ≠ [] := by simpa [hz] using hc
    have : (joinS c t).f2.toList ≠ [] := by
      show (c.f2 ++ t.f2).toList ≠ []
      rw [ByteArray.toList_eq] at ht ⊢
      simp [ByteArray.data_append] at ht ⊢
      intro h
      exact absurd h ht
    simp [this]
  · have : ¬ c.f1 + t.f1 = 0 := by omega
    simp [this]
theorem runs_full : ∀ (r : List Sp) (c : Sp), emptyS c = false → 0 ≤ c.f1 → (∀ s ∈ r, emptyS s = false ∧ 0 ≤ s.f1) → c.f1 + sumN r ≤ 4611686018427387904 → ∀ x ∈ runs c r, emptyS x = false
  | [], c, hc, _, _, _ => by simp [runs, hc]
  | t :: r, c, hc, h0, hr, hs => by
    have ht := hr t (by simp)
    have hr' : ∀ s ∈ r, emptyS s = false ∧ 0 ≤ s.f1 := fun s h => hr s (by simp [h])
    have hs' : c.f1 + (t.f1 + sumN r) ≤ 4611686018427387904 := by simpa [sumN] using hs
    have hp : 0 ≤ sumN r := by
      clear hs hs' hr
      induction r with
      | nil => simp [sumN]
      | cons s r ih =>
        have := (hr' s (by simp)).2
        have := ih (fun s h => hr' s (by simp [h]))
        simp [sumN] at *
        omega
    rw [runs]
    split
    · have hj := joined_full hc h0 ht.2 (by omega)
      exact runs_full r (joinS c t) hj.1 hj.2.1 hr' (by rw [hj.2.2]; omega)
    · intro x hx
      rcases List.mem_cons.1 hx with rfl | hx
      · exact hc
      · exact runs_full r t ht.1 ht.2 hr' (by omega) x hx
theorem norm_full (l : List Sp) (hl : ∀ s ∈ l, 0 ≤ s.f1) (hs : sumN (l.filter (fun s => !emptyS s)) ≤ 4611686018427387904) : ∀ x ∈ norm l, emptyS x = false := by
  unfold norm
  have h : ∀ s ∈ l.filter (fun s => !emptyS s), emptyS s = false ∧ 0 ≤ s.f1 := by
    intro s h
    have := List.mem_filter.1 h
    exact ⟨by simpa using this.2, hl s this.1⟩
  generalize l.filter (fun s => !emptyS s) = f at *
  cases f with
  | nil => simp [mergeS]
  | cons c r => exact runs_full r c (h c (by simp)).1 (h c (by simp)).2 (fun s hs => h s (by simp [hs])) (by simpa [sumN] using hs)
theorem norm_append (p q : List Sp) (hp : ∀ x ∈ norm p, emptyS x = false) (hq : ∀ x ∈ norm q, emptyS x = false) : norm (norm p ++ norm q) = norm (p ++ q) := by
  have f : ∀ l : List Sp, (∀ x ∈ l, emptyS x = false) → l.filter (fun s => !emptyS s) = l := by
    intro l h
    rw [List.filter_eq_self]
    intro s hs
    simp [h s hs]
  show mergeS ((norm p ++ norm q).filter _) = mergeS ((p ++ q).filter _)
  rw [List.filter_append, List.filter_append, f _ hp, f _ hq]
  unfold norm
  rw [merge_left, merge_right]
theorem norm_cut (a b : List Sp) (e s s1 s2 : Sp) (he : emptyS e = true)
    (h : (emptyS s1 = true ∧ s2 = s) ∨ (emptyS s1 = true ∧ emptyS s2 = true ∧ emptyS s = true) ∨ (emptyS s1 = false ∧ emptyS s2 = false ∧ emptyS s = false ∧ s2.f0 = s1.f0 ∧ joinS s1 s2 = s)) :
    norm (a ++ [e] ++ [s1, s2] ++ b) = norm (a ++ s :: b) := by
  unfold norm
  rw [List.filter_append, List.filter_append, List.filter_append, List.filter_append]
  rcases h with ⟨h1, rfl⟩ | ⟨h1, h2, h3⟩ | ⟨h1, h2, h3, h4, h5⟩
  · cases h2 : emptyS s2 <;> simp [he, h1, h2]
  · simp [he, h1, h2, h3]
  · simp only [List.filter_cons, he, h1, h2, h3, List.filter_nil, Bool.not_true, Bool.not_false, if_true, Bool.false_eq_true, if_false, List.append_nil]
    rw [List.append_assoc, ← merge_right, ← merge_right (b := s :: _)]
    congr 2
    show runs s1 (s2 :: _) = runs s _
    rw [runs, if_pos h4, h5]
    rfl
theorem sizeS_runs : ∀ (r : List Sp) (c : Sp), sizeS (runs c r) ≤ c.f2.size + sizeS r
  | [], c => by simp [runs, sizeS]
  | t :: r, c => by
    rw [runs]
    split
    · have := sizeS_runs r (joinS c t)
      simp [joinS, ByteArray.size_append, sizeS] at *
      omega
    · have := sizeS_runs r t
      simp [sizeS] at *
      omega
theorem sizeS_norm (l : List Sp) : sizeS (norm l) ≤ sizeS l := by
  unfold norm
  have := sizeS_filter (fun s => !emptyS s) l
  generalize l.filter (fun s => !emptyS s) = f at *
  cases f with
  | nil => exact Nat.zero_le _
  | cons c r => have h := sizeS_runs r c; simp only [mergeS]; simp [sizeS] at *; omega
theorem norm_more (a : List Sp) (e : Sp) (he : emptyS e = true) : norm (a ++ [e]) = norm a := by
  unfold norm
  rw [List.filter_append]
  simp [he]

theorem Un.sp_nonneg (u : Un) : 0 ≤ u.sp.f1 := by
  cases u <;> simp [Un.sp]
theorem few_le {u : Un} (h : u.few) : u.sp.f1 ≤ 63 := by
  cases u <;> simp [Un.sp, Un.few] at * <;> omega
theorem sumN_few : ∀ (l : List Sp), (∀ s ∈ l, 0 ≤ s.f1 ∧ s.f1 ≤ 63) → sumN (l.filter (fun s => !emptyS s)) ≤ 63 * l.length
  | [], _ => by simp [sumN]
  | s :: l, h => by
    have h1 := sumN_few l (fun s hs => h s (by simp [hs]))
    have h2 := h s (by simp)
    rw [List.filter_cons]
    split
    · simp only [sumN, List.map_cons, List.sum_cons, List.length_cons] at *
      omega
    · simp only [List.length_cons]
      omega

/-- A span cut in two, as the statement does it. -/
theorem cut_is (u : Un) (hu : u.few) :
    let h := wrap64 (Int.tdiv u.sp.f1 2)
    let s1 : Sp := if u.sp.f0 = 2 then ⟨u.sp.f0, h, ⟨#[]⟩⟩ else ⟨u.sp.f0, h, u.sp.f2⟩
    let s2 : Sp := ⟨u.sp.f0, wrap64 (u.sp.f1 - h), u.sp.f2⟩
    (emptyS s1 = true ∧ s2 = u.sp) ∨ (emptyS s1 = true ∧ emptyS s2 = true ∧ emptyS u.sp = true) ∨ (emptyS s1 = false ∧ emptyS s2 = false ∧ emptyS u.sp = false ∧ s2.f0 = s1.f0 ∧ joinS s1 s2 = u.sp) := by
  have ee : (⟨#[]⟩ : ByteArray).toList = [] := by rw [ByteArray.toList_eq]
  have ea : (⟨#[]⟩ : ByteArray) ++ (⟨#[]⟩ : ByteArray) = ⟨#[]⟩ := by decide
  have key : ∀ (kd : Int) (n : Nat), kd ≠ 2 → n ≤ 63 →
      let h := wrap64 (Int.tdiv (n : Int) 2)
      let s1 : Sp := if kd = 2 then ⟨kd, h, ⟨#[]⟩⟩ else ⟨kd, h, ⟨#[]⟩⟩
      let s2 : Sp := ⟨kd, wrap64 ((n : Int) - h), ⟨#[]⟩⟩
      (emptyS s1 = true ∧ s2 = ⟨kd, n, ⟨#[]⟩⟩) ∨ (emptyS s1 = true ∧ emptyS s2 = true ∧ emptyS (⟨kd, n, ⟨#[]⟩⟩ : Sp) = true) ∨ (emptyS s1 = false ∧ emptyS s2 = false ∧ emptyS (⟨kd, n, ⟨#[]⟩⟩ : Sp) = false ∧ s2.f0 = s1.f0 ∧ joinS s1 s2 = ⟨kd, n, ⟨#[]⟩⟩) := by
    intro kd n hk hn h s1 s2
    have eh : h = ((n / 2 : Nat) : Int) := by
      show wrap64 _ = _
      rw [Int.tdiv_eq_ediv_of_nonneg (by omega), w64 (by omega) (by omega)]
      omega
    have e1 : s1 = ⟨kd, ((n / 2 : Nat) : Int), ⟨#[]⟩⟩ := by show (if kd = 2 then _ else _) = _; rw [if_neg hk, eh]
    have e2 : s2 = ⟨kd, ((n - n / 2 : Nat) : Int), ⟨#[]⟩⟩ := by
      show (⟨kd, wrap64 ((n : Int) - h), ⟨#[]⟩⟩ : Sp) = _
      rw [eh, w64 (by omega) (by omega)]
      congr 1
      omega
    rw [e1, e2]
    by_cases hz : n / 2 = 0
    · refine .inl ⟨by simp [emptyS, hz, ee], ?_⟩
      congr 1
      omega
    · refine .inr (.inr ⟨?_, ?_, ?_, rfl, ?_⟩)
      · unfold emptyS; simp; intro h; omega
      · unfold emptyS; simp; intro h; omega
      · unfold emptyS; simp; intro h; omega
      · unfold joinS
        simp only [ea]
        congr 1
        rw [w64 (by omega) (by omega)]
        omega
  cases u with
  | keep n => exact key 1 n (by decide) hu
  | drop n => exact key 3 n (by decide) hu
  | put l =>
    have e0 : wrap64 (Int.tdiv (0 : Int) 2) = 0 := by simp [wrap64]
    have e1 : wrap64 ((0 : Int) - 0) = 0 := by simp [wrap64]
    simp only [Un.sp, e0, e1, if_true]
    exact .inl ⟨by simp [emptyS, ee], trivial⟩

theorem cut_place (x : Int) (n : Nat) (hx : 0 ≤ x) : ∃ kk : Nat, kk ≤ n ∧ Int.tmod x ((n + 1 : Nat) : Int) = (kk : Int) := by
  have t1 : 0 ≤ Int.tmod x ((n + 1 : Nat) : Int) := Int.tmod_nonneg _ hx
  have t2 : Int.tmod x ((n + 1 : Nat) : Int) < ((n + 1 : Nat) : Int) := Int.tmod_lt_of_pos _ (by omega)
  generalize Int.tmod x ((n + 1 : Nat) : Int) = y at *
  exact ⟨y.toNat, by omega, by omega⟩
theorem w64_succ (n : Nat) (h : n ≤ 4611686018427387904) : wrap64 ((n : Int) + 1) = ((n + 1 : Nat) : Int) := by
  rw [w64 (by omega) (by omega)]
  omega

end Go.Proofs.Ytidmodnfodifgaa.F
