-- YtidmodnfodifgaaPText
import Derived.Test.YtidmodnfodifgaaBase
import Derived.Test.YtidmodnfodifgaaFEpitomeref01Fit
import Derived.Test.YtidmodnfodifgaaFEpitomeref01Of
import Derived.Test.YtidmodnfodifgaaFEpitomeref01Size
import Derived.Test.YtidmodnfodifgaaHCopy
import Derived.Test.YtidmodnfodifgaaPEv
namespace Go.Proofs.Ytidmodnfodifgaa.F
open Go.RowKit Go.Proofs.YtidmodnfodifgaaW.PrintWords Go.Proofs.YtidmodnfodifgaaW.PrintLast Go.Proofs.YtidmodnfodifgaaW.PrintMore
set_option linter.unusedVariables false
set_option linter.unusedSimpArgs false
/-! Texts, as lists of code points; the reference's Of and Fit. -/
def isRune (r : Int) : Prop := (0 ≤ r ∧ r < 55296) ∨ (57344 ≤ r ∧ r ≤ 1114111)
def enc1 (r : Int) : List Int :=
  if r < 128 then [r] else if r < 2048 then [192 + r / 64, 128 + r % 64]
  else if r < 65536 then [224 + r / 4096, 128 + r / 64 % 64, 128 + r % 64]
  else [240 + r / 262144, 128 + r / 4096 % 64, 128 + r / 64 % 64, 128 + r % 64]
def encB (l : List Int) : List Int := l.flatMap enc1
def encT (l : List Int) : ByteArray := strOfNums (encB l)

theorem enc1_length (r : Int) : 1 ≤ (enc1 r).length ∧ (enc1 r).length ≤ 4 := by
  unfold enc1
  split
  · simp
  · split
    · simp
    · split <;> simp
theorem encB_nil : encB [] = [] := rfl
theorem encB_cons (r : Int) (l : List Int) : encB (r :: l) = enc1 r ++ encB l := by simp [encB]
theorem encB_append (a b : List Int) : encB (a ++ b) = encB a ++ encB b := by simp [encB]
theorem encB_length (l : List Int) : l.length ≤ (encB l).length ∧ (encB l).length ≤ 4 * l.length := by
  induction l with
  | nil => simp [encB]
  | cons r l ih =>
    have := enc1_length r
    rw [encB_cons]
    simp
    omega
theorem strOfNums_append (a b : List Int) : strOfNums (a ++ b) = strOfNums a ++ strOfNums b := by
  apply ByteArray.ext
  rw [ByteArray.data_append]
  simp [strOfNums]
theorem encT_append (a b : List Int) : encT (a ++ b) = encT a ++ encT b := by unfold encT; rw [encB_append, strOfNums_append]
theorem encT_nil : encT [] = ⟨#[]⟩ := rfl
theorem encT_size (l : List Int) : l.length ≤ (encT l).size ∧ (encT l).size ≤ 4 * l.length := by
  unfold encT
  rw [strOfNums_size]
  exact encB_length l
theorem encT_none (l : List Int) : (encT l).toList = [] ↔ l = [] := by
  rw [ByteArray.toList_eq]
  constructor
  · intro h
    have h2 := (encT_size l).1
    have : (encT l).size = 0 := by rw [← data_length, h]; rfl
    exact List.eq_nil_of_length_eq_zero (by omega)
  · rintro rfl
    rfl

theorem size_is (r : Int) (h : isRune r) : Ev (fun k => epitomeref01_size.f k r) ((enc1 r).length : Int) := by
  have hj : Ev (fun k => epitomeref01_size.j0 k r false) ((enc1 r).length : Int) := by
    refine Ev.step (f := fun _ => some ((enc1 r).length : Int)) (fun k => ?_) (Ev.now _)
    rw [epitomeref01_size.j0, if_neg (by simp)]
    unfold enc1
    split
    · rfl
    · split
      · rfl
      · split <;> rfl
  unfold epitomeref01_size.f
  unfold isRune at h
  refine ev_if_neg (by omega) (ev_if_neg (by omega) ?_)
  by_cases h1 : r ≥ 55296
  · refine ev_if_pos h1 ?_
    rw [show decide (r ≤ 57343) = false by simp; omega]
    exact hj
  · exact ev_if_neg h1 hj

theorem refOf_loop (l : List Int) (hl : l.length ≤ 4398046511104) (hr : ∀ r ∈ l, isRune r) : ∀ (r pre acc : List Int), l = pre ++ r → acc.length ≤ 4 * pre.length →
    Ev (fun k => epitomeref01_Of.l0 k l acc (pre.length : Int)) (strOfNums (acc ++ encB r))
  | [], pre, acc, h, ha => by
    refine Ev.step (f := fun _ => some (strOfNums acc)) (fun k => ?_) (by simpa [encB] using Ev.now (strOfNums acc))
    rw [epitomeref01_Of.l0, if_neg (by subst h; simp)]
  | t :: r, pre, acc, h, ha => by
    have hlt : (pre.length : Int) < (l.length : Int) := by subst h; simp <;> omega
    have ht : isRune t := hr t (by rw [h]; simp)
    have hrd : rd l (pre.length : Int) = t := by subst h; unfold rd; simp [List.getD_eq_getElem?_getD]
    have hpl : pre.length < 4398046511104 := by omega
    have ht' := ht
    unfold isRune at ht'
    have w0 : wrap64 t = t := w64 (by omega) (by omega)
    have hz := size_is t ht
    have e64 : Int.tdiv t 64 = t / 64 := Int.tdiv_eq_ediv_of_nonneg (by omega)
    have e4096 : Int.tdiv t 4096 = t / 4096 := Int.tdiv_eq_ediv_of_nonneg (by omega)
    have e262144 : Int.tdiv t 262144 = t / 262144 := Int.tdiv_eq_ediv_of_nonneg (by omega)
    have m64 : Int.tmod t 64 = t % 64 := Int.tmod_eq_emod_of_nonneg (by omega)
    have w1 : wrap64 ((pre.length : Int) + 1) = ((pre ++ [t]).length : Int) := by rw [w64 (by omega) (by omega)]; simp
    have next : ∀ ys : List Int, ys = enc1 t → Ev (fun k => epitomeref01_Of.l0 k l (acc ++ ys) (wrap64 ((pre.length : Int) + 1))) (strOfNums (acc ++ encB (t :: r))) := by
      intro ys hy
      have := refOf_loop l hl hr r (pre ++ [t]) (acc ++ ys) (by simp [h]) (by have := enc1_length t; rw [hy]; simp <;> omega)
      rw [w1, encB_cons, ← List.append_assoc, ← hy]
      exact this
    refine Ev.step (f := fun k => _) (fun k => by rw [epitomeref01_Of.l0, if_pos hlt, if_pos (by omega), hrd, w0]) ?_
    refine Ev.bind hz ?_
    by_cases c1 : t < 128
    · have hy : enc1 t = [t] := by unfold enc1; rw [if_pos c1]
      refine ev_if_pos (by rw [hy]; rfl) (ev_if_pos (by omega) ?_)
      exact next _ (by rw [hy, show t % 256 = t by omega])
    · by_cases c2 : t < 2048
      · have hy : enc1 t = [192 + t / 64, 128 + t % 64] := by unfold enc1; rw [if_neg c1, if_pos c2]
        refine ev_if_neg (by rw [hy]; simp) (ev_if_pos (by rw [hy]; rfl) (ev_some rfl (ev_if_pos (by simp; omega) ?_)))
        refine next _ ?_
        rw [hy, e64, m64]
        congr 1
        · unfold wrap64; omega
        · congr 1; unfold wrap64; omega
      · by_cases c3 : t < 65536
        · have hy : enc1 t = [224 + t / 4096, 128 + t / 64 % 64, 128 + t % 64] := by unfold enc1; rw [if_neg c1, if_neg c2, if_pos c3]
          refine ev_if_neg (by rw [hy]; simp) (ev_if_neg (by rw [hy]; simp) (ev_if_pos (by rw [hy]; rfl) (ev_some rfl (ev_if_pos (by simp; omega) ?_))))
          refine next _ ?_
          have m2 : Int.tmod (wrap64 (t / 64)) 64 = t / 64 % 64 := by rw [w64 (by omega) (by omega)]; exact Int.tmod_eq_emod_of_nonneg (by omega)
          rw [hy, e4096, e64, m64, m2]
          congr 1
          · unfold wrap64; omega
          · congr 1
            · unfold wrap64; omega
            · congr 1; unfold wrap64; omega
        · have hy : enc1 t = [240 + t / 262144, 128 + t / 4096 % 64, 128 + t / 64 % 64, 128 + t % 64] := by unfold enc1; rw [if_neg c1, if_neg c2, if_neg c3]
          refine ev_if_neg (by rw [hy]; simp) (ev_if_neg (by rw [hy]; simp) (ev_if_neg (by rw [hy]; simp) (ev_if_pos (by rw [hy]; rfl) (ev_some rfl (ev_if_pos (by simp; omega) ?_)))))
          refine next _ ?_
          have m2 : Int.tmod (wrap64 (t / 64)) 64 = t / 64 % 64 := by rw [w64 (by omega) (by omega)]; exact Int.tmod_eq_emod_of_nonneg (by omega)
          have m3 : Int.tmod (wrap64 (t / 4096)) 64 = t / 4096 % 64 := by rw [w64 (by omega) (by omega)]; exact Int.tmod_eq_emod_of_nonneg (by omega)
          rw [hy, e262144, e4096, e64, m64, m2, m3]
          congr 1
          · unfold wrap64; omega
          · congr 1
            · unfold wrap64; omega
            · congr 1
              · unfold wrap64; omega
              · congr 1; unfold wrap64; omega

theorem refOf_is (l : List Int) (hl : l.length ≤ 4398046511104) (hr : ∀ r ∈ l, isRune r) : Ev (fun k => epitomeref01_Of.f k l) (encT l) := by
  unfold epitomeref01_Of.f
  exact refOf_loop l hl hr l [] [] rfl (by simp)

def alpha : List Int := [97, 98, 99, 120, 121, 233, 8364, 128512]
def fitRunes (s : ByteArray) : List Int := s.data.toList.map (fun b => alpha.getD (b.toNat % 8) 0)
theorem fitRunes_mem (s : ByteArray) : ∀ r ∈ fitRunes s, r ∈ alpha := by
  intro r hr
  unfold fitRunes at hr
  obtain ⟨b, _, rfl⟩ := List.mem_map.1 hr
  have hb : b.toNat % 8 < alpha.length := Nat.mod_lt _ (by decide)
  rw [List.getD_eq_getElem?_getD, List.getElem?_eq_getElem hb]
  exact List.getElem_mem hb
theorem alpha_rune : ∀ r ∈ alpha, isRune r := by
  intro r hr
  unfold isRune
  simp [alpha] at hr
  omega
theorem fitRunes_length (s : ByteArray) : (fitRunes s).length = s.size := by unfold fitRunes; rw [List.length_map, data_length]

theorem fit01_loop (s : ByteArray) (hs : s.size ≤ 1099511627776) : ∀ (r pre : List UInt8), s.data.toList = pre ++ r →
    Ev (fun k => epitomeref01_Fit.l0 k s (pre.map (fun b => alpha.getD (b.toNat % 8) 0)) (pre.length : Int) 97 98 99 120 121 233 8364 128512) (encT (fitRunes s))
  | [], pre, h => by
    have hz : pre.length = s.size := by rw [← data_length, h]; simp
    refine Ev.step (f := fun k => (epitomeref01_Of.f k (fitRunes s)).bind fun t => some t) (fun k => ?_) ?_
    · rw [epitomeref01_Fit.l0, if_neg (by omega)]
      unfold fitRunes
      rw [h, List.append_nil]
    · exact Ev.bind (refOf_is _ (by rw [fitRunes_length]; omega) (fun r hr => alpha_rune r (fitRunes_mem s r hr))) (Ev.now _)
  | b :: r, pre, h => by
    have hz : pre.length + (r.length + 1) = s.size := by rw [← data_length, h, List.length_append, List.length_cons]
    have hbt : bt s (pre.length : Int) = b.toNat := by
      rw [← rd_bytesOf]
      unfold rd bytesOf
      rw [h]
      simp [List.getD_eq_getElem?_getD]
    refine Ev.step (f := fun k => epitomeref01_Fit.l0 k s ((pre ++ [b]).map (fun b => alpha.getD (b.toNat % 8) 0)) ((pre ++ [b]).length : Int) 97 98 99 120 121 233 8364 128512) (fun k => ?_) (fit01_loop s hs r (pre ++ [b]) (by simp [h]))
    rw [epitomeref01_Fit.l0, if_pos (by omega), if_pos (by omega), hbt]
    have hf : fit_rune.f 97 98 99 120 121 233 8364 128512 (Int.tmod (b.toNat : Int) 8) = some (alpha.getD (b.toNat % 8) 0) := by
      unfold fit_rune.f
      rw [show (Int.tmod (b.toNat : Int) 8).toNat = b.toNat % 8 by rw [Int.tmod_eq_emod_of_nonneg (by omega)]; omega]
      have hb : b.toNat % 8 < alpha.length := Nat.mod_lt _ (by decide)
      rw [List.getD_eq_getElem?_getD, List.getElem?_eq_getElem hb]
      exact List.getElem?_eq_getElem hb
    rw [hf, Option.bind_some, if_pos (by simp; omega), w64 (by omega) (by omega)]
    simp

/-- The reference's Fit of a string is a text of as many code points. -/
theorem fit01_is (s : ByteArray) (hs : s.size ≤ 1099511627776) : Ev (fun k => epitomeref01_Fit.f k s) (encT (fitRunes s)) := by
  unfold epitomeref01_Fit.f
  exact fit01_loop s hs s.data.toList [] rfl

end Go.Proofs.Ytidmodnfodifgaa.F
