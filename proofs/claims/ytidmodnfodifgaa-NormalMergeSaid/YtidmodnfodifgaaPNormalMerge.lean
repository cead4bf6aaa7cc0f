-- YtidmodnfodifgaaPNormalMerge
import Derived.Test.YtidmodnfodifgaaBase
import Derived.Test.YtidmodnfodifgaaFEpitomelaw05NormalMerge
import Derived.Test.YtidmodnfodifgaaFEpitomeref04Same
import Derived.Test.YtidmodnfodifgaaFNormalIs
import Derived.Test.YtidmodnfodifgaaFNormalOf
import Derived.Test.YtidmodnfodifgaaPEv
import Derived.Test.YtidmodnfodifgaaPFit04
import Derived.Test.YtidmodnfodifgaaPNormMore
import Derived.Test.YtidmodnfodifgaaPNormal
import Derived.Test.YtidmodnfodifgaaPNormalIs5
import Derived.Test.YtidmodnfodifgaaPShown05
import Derived.Test.YtidmodnfodifgaaPText
import Derived.Test.YtidmodnfodifgaaSNormalMerge
namespace Go.Proofs.Ytidmodnfodifgaa.F
open Go.RowKit Go.Proofs.YtidmodnfodifgaaW.PrintWords Go.Proofs.YtidmodnfodifgaaW.PrintLast Go.Proofs.YtidmodnfodifgaaW.PrintMore
set_option linter.unusedVariables false
set_option linter.unusedSimpArgs false
/-! Rows of spans of one kind. -/
def repT : Nat → ByteArray → ByteArray
  | 0, _ => ⟨#[]⟩
  | m + 1, u => repT m u ++ u
theorem repT_size : ∀ (m : Nat) (u : ByteArray), (repT m u).size = m * u.size
  | 0, u => by rw [Nat.zero_mul]; rfl
  | m + 1, u => by rw [repT, ByteArray.size_append, repT_size m u]; rw [Nat.succ_mul]
theorem size_zero (u : ByteArray) : u.toList = [] ↔ u.size = 0 := by
  rw [ByteArray.toList_eq, ← data_length]
  exact List.length_eq_zero_iff.symm
theorem repT_none : ∀ (m : Nat), repT m ⟨#[]⟩ = ⟨#[]⟩
  | 0 => rfl
  | m + 1 => by rw [repT, repT_none m]; decide
def blk (kd : Int) (k : Nat) (u : ByteArray) (m : Nat) : List Sp := if m = 0 ∨ (k = 0 ∧ u.size = 0) then [] else [⟨kd, ((m * k : Nat) : Int), repT m u⟩]
theorem runs_rep (kd : Int) (k : Nat) (u : ByteArray) (hk : k ≤ 7) (rest : List Sp) : ∀ (m j : Nat), j + m ≤ 1000 →
    runs ⟨kd, ((j * k : Nat) : Int), repT j u⟩ (List.replicate m ⟨kd, (k : Int), u⟩ ++ rest) = runs ⟨kd, (((j + m) * k : Nat) : Int), repT (j + m) u⟩ rest
  | 0, j, h => rfl
  | m + 1, j, h => by
    rw [List.replicate_succ, List.cons_append, runs, if_pos rfl]
    have e : joinS ⟨kd, ((j * k : Nat) : Int), repT j u⟩ ⟨kd, (k : Int), u⟩ = ⟨kd, (((j + 1) * k : Nat) : Int), repT (j + 1) u⟩ := by
      unfold joinS
      have hb : j * k ≤ 1000 * 7 := Nat.mul_le_mul (by omega) hk
      have hw : wrap64 (((j * k : Nat) : Int) + (k : Int)) = (((j + 1) * k : Nat) : Int) := by
        rw [w64 (by omega) (by omega), Nat.succ_mul]
        omega
      show (⟨kd, wrap64 (((j * k : Nat) : Int) + (k : Int)), repT j u ++ u⟩ : Sp) = _
      rw [hw]
      rfl
    rw [e, runs_rep kd k u hk rest m (j + 1) (by omega)]
    rw [show j + 1 + m = j + (m + 1) by omega]
theorem merge_blk (kd : Int) (k : Nat) (u : ByteArray) (hk : k ≤ 7) (m : Nat) (hm : m ≤ 7) (rest : List Sp) (hr : ∀ t ∈ rest, t.f0 ≠ kd) :
    mergeS (List.replicate m ⟨kd, (k : Int), u⟩ ++ rest) = (if m = 0 then [] else [⟨kd, ((m * k : Nat) : Int), repT m u⟩]) ++ mergeS rest := by
  cases m with
  | zero => rfl
  | succ m =>
    rw [if_neg (by omega), List.replicate_succ, List.cons_append]
    have h := runs_rep kd k u hk rest m 1 (by omega)
    have e1 : repT 1 u = u := by
      apply ByteArray.ext
      simp [repT, ByteArray.data_append]
    rw [Nat.one_mul, e1, show 1 + m = m + 1 by omega] at h
    show runs _ _ = _
    rw [h]
    cases rest with
    | nil => rfl
    | cons t r => rw [runs, if_neg (hr t (by simp))]; rfl
theorem filter_rep (kd : Int) (k : Nat) (u : ByteArray) (m : Nat) : (List.replicate m (⟨kd, (k : Int), u⟩ : Sp)).filter (fun s => !emptyS s) = if k = 0 ∧ u.size = 0 then [] else List.replicate m ⟨kd, (k : Int), u⟩ := by
  have he : emptyS (⟨kd, (k : Int), u⟩ : Sp) = decide (k = 0 ∧ u.size = 0) := by
    unfold emptyS
    have := size_zero u
    by_cases h1 : k = 0 <;> by_cases h2 : u.size = 0 <;> simp [h1, h2, this]
  rw [List.filter_replicate, he]
  by_cases h : k = 0 ∧ u.size = 0
  · rw [if_pos h, decide_eq_true h]; rfl
  · rw [if_neg h, decide_eq_false h]; rfl
theorem filter_blk (kd : Int) (k : Nat) (u : ByteArray) (hk : k ≤ 7) (m : Nat) (hm : m ≤ 7) (rest : List Sp) (hr : ∀ t ∈ rest, t.f0 ≠ kd) :
    norm (List.replicate m ⟨kd, (k : Int), u⟩ ++ rest) = blk kd k u m ++ norm rest := by
  unfold norm blk
  rw [List.filter_append, filter_rep]
  by_cases h : k = 0 ∧ u.size = 0
  · rw [if_pos h, if_pos (.inr h)]
    rfl
  · rw [if_neg h, merge_blk kd k u hk m hm _ (fun t ht => hr t (List.mem_filter.1 ht).1)]
    by_cases hm0 : m = 0
    · rw [if_pos hm0, if_pos (.inl hm0)]
    · rw [if_neg hm0, if_neg (fun hh => hh.elim hm0 h)]
theorem norm_blocks (k : Nat) (u : ByteArray) (hk : k ≤ 7) (a b c : Nat) (ha : a ≤ 7) (hb : b ≤ 7) (hc : c ≤ 7) :
    norm (List.replicate a ⟨1, (k : Int), ⟨#[]⟩⟩ ++ (List.replicate b ⟨2, ((0 : Nat) : Int), u⟩ ++ List.replicate c ⟨3, (k : Int), ⟨#[]⟩⟩)) = blk 1 k ⟨#[]⟩ a ++ (blk 2 0 u b ++ blk 3 k ⟨#[]⟩ c) := by
  have h3 : norm (List.replicate c ⟨3, (k : Int), ⟨#[]⟩⟩) = blk 3 k ⟨#[]⟩ c := by
    have := filter_blk 3 k ⟨#[]⟩ hk c hc [] (by simp)
    simpa [norm, mergeS] using this
  rw [filter_blk 1 k _ hk a ha _ ?_, filter_blk 2 0 u (by omega) b hb _ ?_, h3]
  · intro t ht
    rw [List.eq_of_mem_replicate ht]
    show (3 : Int) ≠ 2
    decide
  · intro t ht
    rcases List.mem_append.1 ht with h | h <;> rw [List.eq_of_mem_replicate h]
    · show (2 : Int) ≠ 1
      decide
    · show (3 : Int) ≠ 1
      decide

theorem blk_kind (kd : Int) (k : Nat) (u : ByteArray) (m : Nat) : ∀ t ∈ blk kd k u m, t.f0 = kd ∧ emptyS t = false := by
  intro t ht
  unfold blk at ht
  by_cases h : m = 0 ∨ (k = 0 ∧ u.size = 0)
  · rw [if_pos h] at ht; cases ht
  · rw [if_neg h] at ht
    rw [List.mem_singleton.1 ht]
    refine ⟨rfl, ?_⟩
    unfold emptyS
    have h0 : m ≠ 0 := fun e => h (.inl e)
    by_cases hk : k = 0
    · have hu : u.size ≠ 0 := fun e => h (.inr ⟨hk, e⟩)
      have : (repT m u).toList ≠ [] := fun e => by
        have := (size_zero _).1 e
        rw [repT_size] at this
        exact (Nat.mul_ne_zero h0 hu) this
      simp [this]
    · have : m * k ≠ 0 := Nat.mul_ne_zero h0 hk
      have : ¬ ((m * k : Nat) : Int) = 0 := by omega
      rw [decide_eq_false this]
      rfl
theorem isN_blocks (k : Nat) (u : ByteArray) (a b c : Nat) : isN (blk 1 k ⟨#[]⟩ a ++ (blk 2 0 u b ++ blk 3 k ⟨#[]⟩ c)) = true := by
  have one : ∀ kd k u m, blk kd k u m = [] ∨ ∃ s : Sp, blk kd k u m = [s] ∧ s.f0 = kd ∧ emptyS s = false := by
    intro kd k u m
    have h := blk_kind kd k u m
    unfold blk at *
    by_cases hh : m = 0 ∨ (k = 0 ∧ u.size = 0)
    · exact .inl (if_pos hh)
    · rw [if_neg hh] at *
      exact .inr ⟨_, rfl, h _ (by simp)⟩
  unfold isN
  rcases one 1 k ⟨#[]⟩ a with e1 | ⟨s1, e1, k1, f1⟩ <;> rcases one 2 0 u b with e2 | ⟨s2, e2, k2, f2⟩ <;> rcases one 3 k ⟨#[]⟩ c with e3 | ⟨s3, e3, k3, f3⟩ <;> rw [e1, e2, e3] <;> simp [isNp, *]
theorem blk_num (kd : Int) (k m : Nat) : blk kd k ⟨#[]⟩ m = if m * k = 0 then [] else [⟨kd, ((m * k : Nat) : Int), ⟨#[]⟩⟩] := by
  unfold blk
  by_cases h : m * k = 0
  · rw [if_pos h, if_pos]
    rcases Nat.mul_eq_zero.1 h with h | h
    · exact .inl h
    · exact .inr ⟨h, rfl⟩
  · rw [if_neg h, if_neg, repT_none]
    rintro (h1 | h1)
    · exact h (by rw [h1, Nat.zero_mul])
    · exact h (by rw [h1.1, Nat.mul_zero])
theorem blk_text (u : ByteArray) (b : Nat) : blk 2 0 u b = if (repT b u).toList = [] then [] else [⟨2, 0, repT b u⟩] := by
  have hs := size_zero (repT b u)
  rw [repT_size] at hs
  unfold blk
  by_cases h : (repT b u).toList = []
  · rw [if_pos h, if_pos]
    rcases Nat.mul_eq_zero.1 (hs.1 h) with h | h
    · exact .inl h
    · exact .inr ⟨rfl, h⟩
  · rw [if_neg h, if_neg]
    · rfl
    · rintro (h1 | h1)
      · exact h (hs.2 (by rw [h1, Nat.zero_mul]))
      · exact h (hs.2 (by rw [h1.2, Nat.mul_zero]))
theorem rem8u (x : Int) (h : (Lit.int .u8 x).wf = true) : ∃ n : Nat, n ≤ 7 ∧ wrap64 (Int.tmod x 8) = (n : Int) := by
  have := wf_u8 h
  have h1 : 0 ≤ Int.tmod x 8 := Int.tmod_nonneg _ this.1
  have h2 : Int.tmod x 8 < 8 := Int.tmod_lt_of_pos _ (by decide)
  refine ⟨(Int.tmod x 8).toNat, by omega, ?_⟩
  rw [w64 (by omega) (by omega)]
  omega
theorem rep_snoc (s : Sp) (i : Nat) : List.replicate i s ++ [s] = List.replicate (i + 1) s := by
  rw [List.replicate_succ']

theorem st_lt {i d c : Nat} (h : i + (d + 1) = c) : (i : Int) < (c : Int) := by omega
theorem st_le {i d c : Nat} (h : i + (d + 1) = c) (hc : c ≤ 7) : i ≤ 7 := by omega
theorem st_next {i d c : Nat} (h : i + (d + 1) = c) : i + 1 + d = c := by omega
theorem st_zero {i c : Nat} (h : i + 0 = c) : i = c := h
theorem st_not (c : Nat) : ¬ ((c : Int) < (c : Int)) := by omega
theorem st_big {i : Nat} (h : i ≤ 7) : i ≤ 4611686018427387904 := by omega
theorem len1 {a : Nat} (ha : a ≤ 7) : a < 4398046511104 := by omega
theorem len2 {a b : Nat} (ha : a ≤ 7) (hb : b ≤ 7) : a + b < 4398046511104 := by omega
theorem len3 {a b c : Nat} (ha : a ≤ 7) (hb : b ≤ 7) (hc : c ≤ 7) : a + (b + c) < 4398046511104 := by omega
theorem txt2 {x y : Nat} (h : x ≤ 7 * 80) (h2 : y ≤ 80) : x + y ≤ 9223372036854775807 := by omega

theorem Pure.NormalMerge : epitomelaw05_NormalMerge.Pure := by
  intro s x0 x1 x2 x3 hs h0 h1 h2 h3
  apply Ev.rounds
  obtain ⟨a, ha, ea⟩ := rem8u x0 h0
  obtain ⟨b, hb, eb⟩ := rem8u x1 h1
  obtain ⟨c, hc, ec⟩ := rem8u x2 h2
  obtain ⟨n, hn, en⟩ := rem8u x3 h3
  have hmn := mn_le (s.size : Int) 20
  have hu := fit01_is (s.extract 0 (mn (s.size : Int) 20).toNat) (by have := extract_size s (mn (s.size : Int) 20).toNat; omega)
  have hz : (encT (fitRunes (s.extract 0 (mn (s.size : Int) 20).toNat))).size ≤ 80 := by
    have h1 := (encT_size (fitRunes (s.extract 0 (mn (s.size : Int) 20).toNat))).2
    rw [fitRunes_length] at h1
    have := extract_size s (mn (s.size : Int) 20).toNat
    omega
  generalize encT (fitRunes (s.extract 0 (mn (s.size : Int) 20).toNat)) = u at *
  have hall := norm_blocks n u hn a b c ha hb hc
  have his := isN_blocks n u a b c
  have mul : ∀ m : Nat, m ≤ 7 → wrap64 ((m : Int) * (n : Int)) = ((m * n : Nat) : Int) := by
    intro m hm
    have : m * n ≤ 7 * 7 := Nat.mul_le_mul hm hn
    rw [← Int.natCast_mul]
    exact w64 (by omega) (by omega)
  -- the row that is merged
  generalize hrow : List.replicate a (⟨1, (n : Int), ⟨#[]⟩⟩ : Sp) ++ (List.replicate b (⟨2, ((0 : Nat) : Int), u⟩ : Sp) ++ List.replicate c (⟨3, (n : Int), ⟨#[]⟩⟩ : Sp)) = row at hall
  have hrl : row.length ≤ 21 := by rw [← hrow]; simp; omega
  have hrz : sizeS row ≤ 1000 := by
    rw [← hrow, sizeS_append, sizeS_append]
    have e0 : ∀ (m : Nat) (t : Sp), sizeS (List.replicate m t) = m * t.f2.size := by
      intro m t
      simp [sizeS]
    rw [e0, e0, e0]
    have : b * u.size ≤ 7 * 80 := Nat.mul_le_mul hb hz
    have z1 : (⟨#[]⟩ : ByteArray).size = 0 := rfl
    simp only [z1, Nat.mul_zero]
    omega
  have hlast : ∀ want : List Sp, want = blk 1 n ⟨#[]⟩ a ++ (blk 2 0 u b ++ blk 3 n ⟨#[]⟩ c) →
      Ev (fun k => (normal_Of.f k row).bind fun t128 => ((epitomeref04_Same.f k t128 want).bind fun t131 => (if t131 = true then ((normal_Is.f k want).bind fun t132 => (some t132)) else (some false)))) true := by
    intro want hw
    refine Ev.bind (normal_is row (by omega) (by omega)) ?_
    have hl := norm_length row
    refine Ev.bind (same_is _ _ (by omega)) ?_
    refine ev_if_pos (by simp [hall, hw]) ?_
    have hwl : want.length ≤ 21 := by rw [hw, ← hall]; omega
    refine Ev.bind (normalIs_is want (by omega)) ?_
    rw [hw, his]
    exact Ev.now _
  have b1 := blk_num 1 n a
  have b2 := blk_text u b
  have b3 := blk_num 3 n c
  have l1 : (blk 1 n ⟨#[]⟩ a).length ≤ 1 := by rw [b1]; split <;> simp
  have l2 : (blk 2 0 u b).length ≤ 1 := by rw [b2]; split <;> simp
  have j4 : Ev (fun k => epitomelaw05_NormalMerge.j4 k true (n : Int) row (blk 1 n ⟨#[]⟩ a ++ blk 2 0 u b) x0 x1 x2) true := by
    refine Ev.step (f := fun k => _) (fun k => by rw [epitomelaw05_NormalMerge.j4, ec, mul c hc]) ?_
    by_cases hz : c * n = 0
    · refine ev_if_neg (by omega) ?_
      refine ev_if_pos rfl ?_
      refine hlast _ ?_
      rw [b3, if_pos hz]
      simp
    · refine ev_if_pos (by omega) ?_
      refine ev_if_pos (by rw [List.length_append]; omega) ?_
      refine ev_some rfl ?_
      refine ev_if_pos rfl ?_
      refine hlast _ ?_
      rw [b3, if_neg hz]
      simp
  have j3 : Ev (fun k => epitomelaw05_NormalMerge.j3 k true (n : Int) row (blk 1 n ⟨#[]⟩ a) (repT b u) x0 x1 x2) true := by
    refine Ev.step (f := fun k => _) (fun k => by rw [epitomelaw05_NormalMerge.j3]) ?_
    by_cases hz : (repT b u).toList = []
    · refine ev_if_pos hz ?_
      rw [b2, if_pos hz, List.append_nil] at j4
      exact j4
    · refine ev_if_neg hz ?_
      refine ev_if_pos (by omega) ?_
      rw [b2, if_neg hz] at j4
      exact j4
  have t2 : Ev (fun k => if wrap64 (wrap64 (Int.tmod x0 8) * (n : Int)) > 0 then (if ([] : List Sp).length < 4398046511104 then epitomelaw05_NormalMerge.j3 k true (n : Int) row ([] ++ [(⟨1, wrap64 (wrap64 (Int.tmod x0 8) * (n : Int)), ⟨#[]⟩⟩ : Sp)]) (repT b u) x0 x1 x2 else none) else epitomelaw05_NormalMerge.j3 k true (n : Int) row [] (repT b u) x0 x1 x2) true := by
    rw [ea, mul a ha]
    by_cases hz : a * n = 0
    · refine ev_if_neg (by omega) ?_
      rw [b1, if_pos hz] at j3
      exact j3
    · refine ev_if_pos (by omega) ?_
      refine ev_if_pos (by decide) ?_
      rw [b1, if_neg hz] at j3
      exact j3
  have pl : ∀ (i : Nat) (t : Sp), i ≤ 7 → (List.replicate i t).length ≤ 7 := by intro i t h; simp; exact h
  have lp2 : ∀ d i : Nat, i + d = c → Ev (fun k => epitomelaw05_NormalMerge.l2 k true (n : Int) (List.replicate a (⟨1, (n : Int), ⟨#[]⟩⟩ : Sp) ++ (List.replicate b (⟨2, ((0 : Nat) : Int), u⟩ : Sp) ++ List.replicate i (⟨3, (n : Int), ⟨#[]⟩⟩ : Sp))) [] (repT b u) (i : Int) x0 x1 x2) true := by
    intro d
    induction d with
    | zero =>
      intro i hi
      have hi := st_zero hi
      rw [hi]
      refine Ev.step (f := fun k => _) (fun k => by rw [epitomelaw05_NormalMerge.l2, ec, if_neg (st_not _)]) ?_
      rw [hrow]
      exact t2
    | succ d ih =>
      intro i hi
      have hw : wrap64 ((i : Int) + 1) = ((i + 1 : Nat) : Int) := w64_succ i (st_big (st_le hi hc))
      have q1 : (i : Int) < (c : Int) := st_lt hi
      have q2 : (List.replicate a (⟨1, (n : Int), ⟨#[]⟩⟩ : Sp) ++ (List.replicate b (⟨2, ((0 : Nat) : Int), u⟩ : Sp) ++ List.replicate i (⟨3, (n : Int), ⟨#[]⟩⟩ : Sp))).length < 4398046511104 := by
        rw [List.length_append, List.length_append, List.length_replicate, List.length_replicate, List.length_replicate]
        exact len3 ha hb (st_le hi hc)
      refine Ev.step (f := fun k => _) (fun k => by rw [epitomelaw05_NormalMerge.l2, ec, if_pos q1, if_pos q2, hw]) ?_
      have := ih (i + 1) (st_next hi)
      rw [← rep_snoc, ← List.append_assoc, ← List.append_assoc] at this
      rw [← List.append_assoc]
      exact this
  have lp1 : ∀ d i : Nat, i + d = b → Ev (fun k => epitomelaw05_NormalMerge.l1 k true u (n : Int) (List.replicate a (⟨1, (n : Int), ⟨#[]⟩⟩ : Sp) ++ List.replicate i (⟨2, ((0 : Nat) : Int), u⟩ : Sp)) [] (repT i u) (i : Int) x0 x1 x2) true := by
    intro d
    induction d with
    | zero =>
      intro i hi
      have hi := st_zero hi
      rw [hi]
      refine Ev.step (f := fun k => _) (fun k => by rw [epitomelaw05_NormalMerge.l1, eb, if_neg (st_not _)]) ?_
      have := lp2 c 0 (Nat.zero_add c)
      simpa using this
    | succ d ih =>
      intro i hi
      have hw : wrap64 ((i : Int) + 1) = ((i + 1 : Nat) : Int) := w64_succ i (st_big (st_le hi hb))
      have hiz : i * u.size ≤ 7 * 80 := Nat.mul_le_mul (st_le hi hb) hz
      have q1 : (i : Int) < (b : Int) := st_lt hi
      have q2 : (List.replicate a (⟨1, (n : Int), ⟨#[]⟩⟩ : Sp) ++ List.replicate i (⟨2, ((0 : Nat) : Int), u⟩ : Sp)).length < 4398046511104 := by
        rw [List.length_append, List.length_replicate, List.length_replicate]
        exact len2 ha (st_le hi hb)
      have q3 : (repT i u).size + u.size ≤ 9223372036854775807 := by
        rw [repT_size]
        exact txt2 hiz hz
      refine Ev.step (f := fun k => _) (fun k => by rw [epitomelaw05_NormalMerge.l1, eb, if_pos q1, if_pos q2, if_pos q3, hw]) ?_
      have := ih (i + 1) (st_next hi)
      rw [← rep_snoc, repT, ← List.append_assoc] at this
      exact this
  have lp0 : ∀ d i : Nat, i + d = a → Ev (fun k => epitomelaw05_NormalMerge.l0 k true u (n : Int) (List.replicate i (⟨1, (n : Int), ⟨#[]⟩⟩ : Sp)) [] ⟨#[]⟩ (i : Int) x0 x1 x2) true := by
    intro d
    induction d with
    | zero =>
      intro i hi
      have hi := st_zero hi
      rw [hi]
      refine Ev.step (f := fun k => _) (fun k => by rw [epitomelaw05_NormalMerge.l0, ea, if_neg (st_not _)]) ?_
      have := lp1 b 0 (Nat.zero_add b)
      simpa [repT] using this
    | succ d ih =>
      intro i hi
      have hw : wrap64 ((i : Int) + 1) = ((i + 1 : Nat) : Int) := w64_succ i (st_big (st_le hi ha))
      have q1 : (i : Int) < (a : Int) := st_lt hi
      have q2 : (List.replicate i (⟨1, (n : Int), ⟨#[]⟩⟩ : Sp)).length < 4398046511104 := by
        rw [List.length_replicate]
        exact len1 (st_le hi ha)
      refine Ev.step (f := fun k => _) (fun k => by rw [epitomelaw05_NormalMerge.l0, ea, if_pos q1, if_pos q2, hw]) ?_
      have := ih (i + 1) (st_next hi)
      rw [← rep_snoc] at this
      exact this
  unfold epitomelaw05_NormalMerge.f
  rw [en]
  refine Ev.bind shown05 ?_
  refine ev_if_pos (by omega) ?_
  refine ev_if_pos (by omega) ?_
  refine Ev.bind hu ?_
  exact lp0 a 0 (Nat.zero_add a)

end Go.Proofs.Ytidmodnfodifgaa.F
