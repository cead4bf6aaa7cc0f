-- YtidmodnfodifgaaPFit04
import Derived.Test.YtidmodnfodifgaaBase
import Derived.Test.YtidmodnfodifgaaFEpitomeref04Fit
import Derived.Test.YtidmodnfodifgaaPEv
import Derived.Test.YtidmodnfodifgaaPNormal
import Derived.Test.YtidmodnfodifgaaPText
namespace Go.Proofs.Ytidmodnfodifgaa.F
open Go.RowKit Go.Proofs.YtidmodnfodifgaaW.PrintWords Go.Proofs.YtidmodnfodifgaaW.PrintLast Go.Proofs.YtidmodnfodifgaaW.PrintMore
set_option linter.unusedVariables false
set_option linter.unusedSimpArgs false
/-! Operations, as lists of spans in plain words; the reference's Fit of operations. -/
inductive Un where
  | keep (n : Nat)
  | put (l : List Int)
  | drop (n : Nat)
def Un.sp : Un → Sp
  | .keep n => ⟨1, n, ⟨#[]⟩⟩
  | .put l => ⟨2, 0, encT l⟩
  | .drop n => ⟨3, n, ⟨#[]⟩⟩
def Un.cin : Un → Nat
  | .keep n => n
  | .put _ => 0
  | .drop n => n
def Un.cout : Un → Nat
  | .keep n => n
  | .put l => l.length
  | .drop _ => 0
/-- A span that Fit makes. -/
def Un.few : Un → Prop
  | .keep n => n ≤ 63
  | .put l => l.length ≤ 6 ∧ ∀ r ∈ l, r ∈ alpha
  | .drop n => n ≤ 63
/-- What Fit makes: an operation of n code points. -/
structure Made (us : List Un) (n : Nat) : Prop where
  few : ∀ u ∈ us, u.few
  len : us.length ≤ 13
  cin : (us.map Un.cin).sum = n

theorem kind_range (x : Int) (h : -9223372036854775808 ≤ x) (h2 : x ≤ 9223372036854775807) :
    let k := wrap64 (1 + Int.tmod (wrap64 (Int.tmod x 3 + 3)) 3); k = 1 ∨ k = 2 ∨ k = 3 := by
  intro k
  have h1 : -3 < Int.tmod x 3 := by have := Int.lt_tmod_of_pos x (show (0 : Int) < 3 by decide); omega
  have h3 : Int.tmod x 3 < 3 := Int.tmod_lt_of_pos x (by decide)
  have e : wrap64 (Int.tmod x 3 + 3) = Int.tmod x 3 + 3 := w64 (by omega) (by omega)
  have e2 : Int.tmod (Int.tmod x 3 + 3) 3 = (Int.tmod x 3 + 3) % 3 := Int.tmod_eq_emod_of_nonneg (by omega)
  have e3 : k = 1 + (Int.tmod x 3 + 3) % 3 := by
    show wrap64 _ = _
    rw [e, e2, w64 (by omega) (by omega)]
  omega
theorem many_range (x : Int) (h : -9223372036854775808 ≤ x) (h2 : x ≤ 9223372036854775807) :
    0 ≤ Int.tmod (wrap64 (Int.tmod x 7 + 7)) 7 ∧ Int.tmod (wrap64 (Int.tmod x 7 + 7)) 7 ≤ 6 := by
  have h1 : -7 < Int.tmod x 7 := by have := Int.lt_tmod_of_pos x (show (0 : Int) < 7 by decide); omega
  have h3 : Int.tmod x 7 < 7 := Int.tmod_lt_of_pos x (by decide)
  rw [w64 (by omega) (by omega), Int.tmod_eq_emod_of_nonneg (by omega)]
  omega
theorem mn_le (a b : Int) : mn a b ≤ a ∧ mn a b ≤ b ∧ (mn a b = a ∨ mn a b = b) := by
  unfold mn
  split <;> omega
theorem extract_size (s : ByteArray) (n : Nat) : (s.extract 0 n).size ≤ n := by
  rw [ByteArray.size_extract]
  omega

theorem fit04_end (l : List Sp) (m : Nat) (acc : List Sp) (i : Int) (hacc : acc.length ≤ 12) :
    Ev (fun k => epitomeref04_Fit.j1 k l (m : Int) acc i false) (acc ++ (if m = 0 then ([] : List Un) else [Un.keep m]).map Un.sp) := by
  by_cases h : m = 0
  · subst h
    refine Ev.step (f := fun _ => some acc) (fun k => ?_) (by simpa using Ev.now acc)
    rw [epitomeref04_Fit.j1, if_neg (by simp), if_neg (by simp)]
  · refine Ev.step (f := fun _ => some (acc ++ [⟨1, (m : Int), ⟨#[]⟩⟩])) (fun k => ?_) (by rw [if_neg h]; exact Ev.now _)
    rw [epitomeref04_Fit.j1, if_neg (by simp), if_pos (by omega), if_pos (by omega)]

theorem fit04_loop (l : List Sp) (hl : l.length ≤ maxLen) (hw : ∀ x ∈ l, (Lit.int .i64 x.f0).wf = true ∧ (Lit.int .i64 x.f1).wf = true ∧ x.f2.size ≤ maxLen) :
    ∀ (r pre : List Sp) (m : Nat) (acc : List Sp), l = pre ++ r → acc.length = pre.length → pre.length ≤ 12 → m ≤ 63 →
      ∃ us : List Un, Ev (fun k => epitomeref04_Fit.l0 k l (m : Int) acc (pre.length : Int)) (acc ++ us.map Un.sp) ∧ (∀ u ∈ us, u.few) ∧ us.length + pre.length ≤ 13 ∧ (us.map Un.cin).sum = m
  | [], pre, m, acc, h, ha, hp, hm => by
    refine ⟨if m = 0 then [] else [Un.keep m], ?_, ?_, ?_, ?_⟩
    · refine Ev.step (f := fun k => epitomeref04_Fit.j1 k l (m : Int) acc (pre.length : Int) false) (fun k => ?_) (fit04_end l m acc _ (by omega))
      rw [epitomeref04_Fit.l0, if_neg (by subst h; simp)]
    · intro u hu
      by_cases h0 : m = 0
      · rw [if_pos h0] at hu; simp at hu
      · rw [if_neg h0] at hu; simp at hu; subst hu; exact hm
    · split <;> simp <;> omega
    · split <;> simp [Un.cin] <;> omega
  | x :: r, pre, m, acc, h, ha, hp, hm => by
    have hlt : (pre.length : Int) < (l.length : Int) := by subst h; simp <;> omega
    by_cases h12 : pre.length = 12
    · refine ⟨if m = 0 then [] else [Un.keep m], ?_, ?_, ?_, ?_⟩
      · refine Ev.step (f := fun k => epitomeref04_Fit.j1 k l (m : Int) acc (pre.length : Int) false) (fun k => ?_) (fit04_end l m acc _ (by omega))
        rw [epitomeref04_Fit.l0, if_pos hlt, show decide ((pre.length : Int) < 12) = false by simp; omega]
      · intro u hu
        by_cases h0 : m = 0
        · rw [if_pos h0] at hu; simp at hu
        · rw [if_neg h0] at hu; simp at hu; subst hu; exact hm
      · split <;> simp <;> omega
      · split <;> simp [Un.cin] <;> omega
    · have hx := hw x (by rw [h]; simp)
      have b0 := wf_bounds hx.1
      have b1 := wf_bounds hx.2.1
      have hrd : rd_T31 l (pre.length : Int) = x := by rw [h]; exact rdS_at rfl
      have hk := kind_range x.f0 b0.1 b0.2
      have hn := many_range x.f1 b1.1 b1.2
      have w1 : wrap64 ((pre.length : Int) + 1) = ((pre ++ [x]).length : Int) := by rw [w64 (by omega) (by omega)]; simp
      generalize hkk : wrap64 (1 + Int.tmod (wrap64 (Int.tmod x.f0 3 + 3)) 3) = kk at hk
      generalize hnn : Int.tmod (wrap64 (Int.tmod x.f1 7 + 7)) 7 = nn at hn
      have two : ∀ (m2 : Nat) (u : Un), m2 ≤ 63 → u.few → u.cin + m2 = m →
          ∃ us : List Un, Ev (fun k => epitomeref04_Fit.l0 k l (m2 : Int) (acc ++ [u.sp]) (wrap64 ((pre.length : Int) + 1))) (acc ++ us.map Un.sp) ∧ (∀ u ∈ us, u.few) ∧ us.length + pre.length ≤ 13 ∧ (us.map Un.cin).sum = m := by
        intro m2 u hm2 hu hc
        obtain ⟨us, e1, e2, e3, e4⟩ := fit04_loop l hl hw r (pre ++ [x]) m2 (acc ++ [u.sp]) (by simp [h]) (by simp [ha]) (by simp; omega) hm2
        refine ⟨u :: us, ?_, ?_, ?_, ?_⟩
        · rw [w1]
          simpa using e1
        · intro v hv
          rcases List.mem_cons.1 hv with rfl | hv
          · exact hu
          · exact e2 v hv
        · simp at e3 ⊢; omega
        · simp; omega
      have go : ∀ {g : Nat → Option (List Sp)} (w : List Sp), Ev g w → (∀ k, epitomeref04_Fit.j1 (k + 1) l (m : Int) acc (pre.length : Int) true = g k) → Ev (fun k => epitomeref04_Fit.l0 k l (m : Int) acc (pre.length : Int)) w := by
        intro g w hg hj
        refine Ev.step (f := fun k => epitomeref04_Fit.j1 k l (m : Int) acc (pre.length : Int) true) (fun k => ?_) (Ev.step hj hg)
        rw [epitomeref04_Fit.l0, if_pos hlt, show decide ((pre.length : Int) < 12) = true by simp; omega]
      by_cases h2 : kk = 2
      · have hmn := mn_le (x.f2.size : Int) 6
        obtain ⟨us, e1, e2⟩ := two m (Un.put (fitRunes (x.f2.extract 0 (mn (x.f2.size : Int) 6).toNat))) hm ⟨by rw [fitRunes_length]; have := extract_size x.f2 (mn (x.f2.size : Int) 6).toNat; omega, fitRunes_mem _⟩ (by simp [Un.cin])
        refine ⟨us, go _ ?_ (fun k => by rw [epitomeref04_Fit.j1, if_pos rfl, if_pos (by omega), if_pos hlt, hrd, hkk, if_pos h2, if_pos (by omega), if_pos (by omega)]), e2⟩
        refine Ev.bind (fit01_is _ (by have := extract_size x.f2 (mn (x.f2.size : Int) 6).toNat; omega)) (ev_if_pos (by omega) ?_)
        rw [h2]
        exact e1
      · have hmn := mn_le nn m
        have hmn0 : 0 ≤ mn nn m := by omega
        obtain ⟨v, hv⟩ := Int.eq_ofNat_of_zero_le hmn0
        have hw2 : wrap64 ((m : Int) - mn nn m) = ((m - v : Nat) : Int) := by rw [w64 (by omega) (by omega)]; omega
        obtain ⟨us, e1, e2⟩ := two (m - v) (if kk = 1 then Un.keep v else Un.drop v) (by omega) (by split <;> (show v ≤ 63; omega)) (by split <;> (show v + (m - v) = m; omega))
        refine ⟨us, go _ ?_ (fun k => by rw [epitomeref04_Fit.j1, if_pos rfl, if_pos (by omega), if_pos hlt, hrd, hkk, if_neg h2, if_pos (by omega), hnn, hw2, hv]), e2⟩
        have hsp : (⟨kk, (v : Int), ⟨#[]⟩⟩ : Sp) = (if kk = 1 then Un.keep v else Un.drop v).sp := by
          rcases hk with rfl | rfl | rfl
          · rfl
          · exact absurd rfl h2
          · rfl
        rw [hsp]
        exact e1

/-- Fit makes an operation of n code points. -/
theorem fit04_is (l : List Sp) (hl : l.length ≤ maxLen) (hw : ∀ x ∈ l, (Lit.int .i64 x.f0).wf = true ∧ (Lit.int .i64 x.f1).wf = true ∧ x.f2.size ≤ maxLen) (n : Nat) (hn : n ≤ 63) :
    ∃ us, Ev (fun k => epitomeref04_Fit.f k l (n : Int)) (us.map Un.sp) ∧ Made us n := by
  obtain ⟨us, e1, e2, e3, e4⟩ := fit04_loop l hl hw l [] n [] rfl rfl (by simp) hn
  refine ⟨us, ?_, e2, by simpa using e3, e4⟩
  unfold epitomeref04_Fit.f
  simpa using e1

theorem Un.sp_size {u : Un} (h : u.few) : u.sp.f2.size ≤ 24 := by
  cases u with
  | keep n => exact Nat.zero_le _
  | put l => have := (encT_size l).2; have := h.1; show (encT l).size ≤ 24; omega
  | drop n => exact Nat.zero_le _
theorem sizeS_few : ∀ (us : List Un), (∀ u ∈ us, u.few) → sizeS (us.map Un.sp) ≤ 24 * us.length
  | [], _ => Nat.zero_le _
  | u :: us, h => by
    have h1 := Un.sp_size (h u (by simp))
    have h2 := sizeS_few us (fun v hv => h v (by simp [hv]))
    unfold sizeS at h2 ⊢
    simp only [List.map_cons, List.sum_cons, List.length_cons]
    omega
theorem sizeS_append (a b : List Sp) : sizeS (a ++ b) = sizeS a + sizeS b := by simp [sizeS]
theorem rem64 (x : Int) (h : (Lit.int .u8 x).wf = true) : ∃ n : Nat, n ≤ 63 ∧ wrap64 (Int.tmod x 64) = (n : Int) := by
  have := wf_u8 h
  have h1 : 0 ≤ Int.tmod x 64 := Int.tmod_nonneg _ this.1
  have h2 : Int.tmod x 64 < 64 := Int.tmod_lt_of_pos _ (by decide)
  refine ⟨(Int.tmod x 64).toNat, by omega, ?_⟩
  rw [w64 (by omega) (by omega)]
  omega

end Go.Proofs.Ytidmodnfodifgaa.F
