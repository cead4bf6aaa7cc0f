-- YtidmodnfodifgaaPNormal
import Derived.Test.YtidmodnfodifgaaBase
import Derived.Test.YtidmodnfodifgaaFApiSpan15
import Derived.Test.YtidmodnfodifgaaFApiSpan18
import Derived.Test.YtidmodnfodifgaaFEpitomeref04Same
import Derived.Test.YtidmodnfodifgaaFNormalEmpty
import Derived.Test.YtidmodnfodifgaaFNormalOf
import Derived.Test.YtidmodnfodifgaaPEv
namespace Go.Proofs.Ytidmodnfodifgaa.F
open Go.RowKit Go.Proofs.YtidmodnfodifgaaW.PrintWords Go.Proofs.YtidmodnfodifgaaW.PrintLast Go.Proofs.YtidmodnfodifgaaW.PrintMore
set_option linter.unusedVariables false
set_option linter.unusedSimpArgs false
/-! normal.Of, in plain words: empty spans go, neighbours of one kind are one. -/
abbrev Sp := S31
deriving instance DecidableEq for S31
instance : DecidableEq Sp := inferInstanceAs (DecidableEq S31)
def emptyS (s : Sp) : Bool := decide (s.f1 = 0) && (s.f2.toList == [])
def joinS (a b : Sp) : Sp := ⟨a.f0, wrap64 (a.f1 + b.f1), a.f2 ++ b.f2⟩
def runs : Sp → List Sp → List Sp
  | c, [] => [c]
  | c, t :: r => if t.f0 = c.f0 then runs (joinS c t) r else c :: runs t r
def mergeS : List Sp → List Sp
  | [] => []
  | s :: r => runs s r
def norm (l : List Sp) : List Sp := mergeS (l.filter (fun s => !emptyS s))
def sizeS (l : List Sp) : Nat := (l.map (fun s => s.f2.size)).sum

theorem empty_is (a b : Int) (c : ByteArray) : normal_empty.f a b c = some (emptyS ⟨a, b, c⟩) := by
  unfold normal_empty.f emptyS
  by_cases h : b = 0 <;> simp [h]
theorem empty_at (s : Sp) : normal_empty.f s.f0 s.f1 s.f2 = some (emptyS s) := empty_is _ _ _

theorem rdS_at {pre r : List Sp} {c : Sp} {i : Int} (h : i = pre.length) : rd_T31 (pre ++ c :: r) i = c := by
  subst h
  unfold rd_T31
  simp [List.getD_eq_getElem?_getD]
theorem setS_at {pre r : List Sp} {c d : Sp} {i : Int} (h : i = pre.length) : (pre ++ c :: r).set i.toNat d = pre ++ d :: r := by
  subst h
  simp [List.set_append]

def idxE (l : List Sp) : Int := match l.findIdx? emptyS with | some i => (i : Int) | none => -1

theorem indexFunc_loop (l : List Sp) (hl : l.length ≤ 4611686018427387904) : ∀ (r pre : List Sp), l = pre ++ r → (∀ s ∈ pre, emptyS s = false) →
    Ev (fun k => api_Span_18.l0 k l (l.length : Int) (pre.length : Int)) (idxE l)
  | [], pre, h, hp => by
    refine Ev.step (f := fun _ => some (-1)) (fun k => ?_) ?_
    · rw [api_Span_18.l0, if_neg (by subst h; simp)]
    · have : idxE l = -1 := by
        unfold idxE
        have : l.findIdx? emptyS = none := by
          rw [List.findIdx?_eq_none_iff]; subst h; simpa using hp
        rw [this]
      rw [this]
      exact Ev.now _
  | t :: r, pre, h, hp => by
    have hlt : (pre.length : Int) < (l.length : Int) := by subst h; simp <;> omega
    refine Ev.step (f := fun k => (some (emptyS t)).bind fun t102 => if t102 = true then some (pre.length : Int) else api_Span_18.l0 k l (l.length : Int) (wrap64 (pre.length + 1))) (fun k => ?_) ?_
    · rw [api_Span_18.l0, if_pos hlt, if_pos (by omega), if_pos hlt]
      have e : rd_T31 l (pre.length : Int) = t := by subst h; exact rdS_at rfl
      rw [e, empty_at]
    · refine ev_some rfl ?_
      cases he : emptyS t with
      | true =>
        refine ev_if_pos rfl ?_
        have : idxE l = pre.length := by
          unfold idxE
          have : l.findIdx? emptyS = some pre.length := by
            rw [List.findIdx?_eq_some_iff_getElem]
            subst h
            refine ⟨by simp, by simpa using he, fun j hj => ?_⟩
            rw [List.getElem_append_left hj]
            simpa using hp _ (List.getElem_mem hj)
          rw [this]
        rw [this]
        exact Ev.now _
      | false =>
        refine ev_if_neg (by simp) ?_
        rw [w64 (by omega) (by omega)]
        have := indexFunc_loop l hl r (pre ++ [t]) (by simpa using h) (by intro s hs; rcases List.mem_append.1 hs with h1 | h1; exact hp s h1; simp at h1; rw [h1]; exact he)
        simpa using this

theorem indexFunc_is (l : List Sp) (hl : l.length ≤ 4611686018427387904) : Ev (fun k => api_Span_18.f k l) (idxE l) := by
  unfold api_Span_18.f
  exact indexFunc_loop l hl l [] rfl (by simp)

theorem deleteFunc_loop : ∀ (r kept junk : List Sp) (j0 : Sp) (n : Int), n = (kept.length + (junk.length + 1) : Nat) → kept.length + junk.length + r.length ≤ 4611686018427387904 →
    Ev (fun k => api_Span_15.l0 k (kept ++ j0 :: (junk ++ r)) (kept.length : Int) n) (kept ++ r.filter (fun s => !emptyS s))
  | [], kept, junk, j0, n, hn, hl => by
    refine Ev.step (f := fun _ => some kept) (fun k => ?_) (by simpa using Ev.now kept)
    rw [api_Span_15.l0, if_neg (by subst hn; simp), if_pos (by omega), if_pos (by simp <;> omega)]
    simp
  | t :: r, kept, junk, j0, n, hn, hl => by
    have hlen : (n : Int) < ((kept ++ j0 :: (junk ++ t :: r)).length : Int) := by subst hn; simp <;> omega
    have ha : kept ++ j0 :: (junk ++ t :: r) = (kept ++ j0 :: junk) ++ t :: r := by simp
    have hrd : rd_T31 (kept ++ j0 :: (junk ++ t :: r)) n = t := by rw [ha]; exact rdS_at (by subst hn; simp)
    simp only [List.length_cons] at hl
    refine Ev.step (f := fun k => (some (emptyS t)).bind fun t104 => if t104 = true then api_Span_15.l0 k (kept ++ j0 :: (junk ++ t :: r)) (kept.length : Int) (wrap64 (n + 1)) else api_Span_15.l0 k (kept ++ t :: (junk ++ t :: r)) (wrap64 (kept.length + 1)) (wrap64 (n + 1))) (fun k => ?_) ?_
    · rw [api_Span_15.l0, if_pos hlen, if_pos (by omega), hrd, empty_at]
      congr 1
      funext b
      cases b with
      | true => rfl
      | false =>
        simp only [Bool.false_eq_true, if_false]
        rw [if_pos (by omega), if_pos (by simp <;> omega), setS_at rfl]
    · refine ev_some rfl ?_
      have w1 : wrap64 (n + 1) = n + 1 := w64 (by omega) (by omega)
      cases he : emptyS t with
      | true =>
        refine ev_if_pos rfl ?_
        rw [w1]
        have := deleteFunc_loop r kept (junk ++ [t]) j0 (n + 1) (by subst hn; simp <;> omega) (by simp <;> omega)
        simpa [he] using this
      | false =>
        refine ev_if_neg (by simp) ?_
        rw [w1, w64 (by omega) (by omega)]
        rcases junk with _ | ⟨j1, js⟩
        · have := deleteFunc_loop r (kept ++ [t]) [] t (n + 1) (by subst hn; simp <;> omega) (by simp <;> omega)
          simpa [he] using this
        · have := deleteFunc_loop r (kept ++ [t]) (js ++ [t]) j1 (n + 1) (by subst hn; simp <;> omega) (by simp; simp at hl; omega)
          simpa [he] using this

theorem split_empty : ∀ (l : List Sp), (∀ s ∈ l, emptyS s = false) ∨ ∃ pre j r, l = pre ++ j :: r ∧ (∀ s ∈ pre, emptyS s = false) ∧ emptyS j = true
  | [] => .inl (by simp)
  | s :: l => by
    cases he : emptyS s with
    | true => exact .inr ⟨[], s, l, rfl, by simp, he⟩
    | false =>
      rcases split_empty l with h | ⟨pre, j, r, rfl, h1, h2⟩
      · exact .inl (by intro x hx; rcases List.mem_cons.1 hx with rfl | hx; exact he; exact h x hx)
      · exact .inr ⟨s :: pre, j, r, rfl, by intro x hx; rcases List.mem_cons.1 hx with rfl | hx; exact he; exact h1 x hx, h2⟩

theorem deleteFunc_is (l : List Sp) (hl : l.length ≤ 4611686018427387904) : Ev (fun k => api_Span_15.f k l) (l.filter (fun s => !emptyS s)) := by
  unfold api_Span_15.f
  refine Ev.bind (indexFunc_is l hl) ?_
  rcases split_empty l with h | ⟨pre, j, r, rfl, h1, h2⟩
  · have e : idxE l = -1 := by
      unfold idxE
      have : l.findIdx? emptyS = none := by rw [List.findIdx?_eq_none_iff]; simpa using h
      rw [this]
    refine ev_if_pos e ?_
    have : l.filter (fun s => !emptyS s) = l := by rw [List.filter_eq_self]; intro s hs; simp [h s hs]
    rw [this]
    exact Ev.now _
  · have e : idxE (pre ++ j :: r) = pre.length := by
      unfold idxE
      have : (pre ++ j :: r).findIdx? emptyS = some pre.length := by
        rw [List.findIdx?_eq_some_iff_getElem]
        refine ⟨by simp, by simpa using h2, fun i hi => ?_⟩
        rw [List.getElem_append_left hi]
        simpa using h1 _ (List.getElem_mem hi)
      rw [this]
    rw [e]
    simp at hl
    refine ev_if_neg (by omega) ?_
    rw [w64 (by omega) (by omega)]
    have := deleteFunc_loop r pre [] j ((pre.length : Int) + 1) (by simp) (by simp <;> omega)
    have hf : (pre ++ j :: r).filter (fun s => !emptyS s) = pre ++ r.filter (fun s => !emptyS s) := by
      rw [List.filter_append, List.filter_eq_self.2 (by intro s hs; simp [h1 s hs])]
      simp [h2]
    rw [hf]
    simpa using this

theorem of_loop : ∀ (r pre junk : List Sp) (cur : Sp) (n : Int), n = (pre.length + (junk.length + 1) : Nat) → pre.length + junk.length + r.length ≤ 4611686018427387904 → cur.f2.size + sizeS r ≤ 9223372036854775807 →
    Ev (fun k => normal_Of.l0 k (pre ++ cur :: (junk ++ r)) (pre.length : Int) ((pre.length + (junk.length + 1) + r.length : Nat) : Int) n) (pre ++ runs cur r)
  | [], pre, junk, cur, n, hn, hl, hs => by
    refine Ev.step (f := fun _ => some (pre ++ [cur])) (fun k => ?_) (Ev.now _)
    rw [normal_Of.l0, if_neg (by subst hn; simp), w64 (by omega) (by omega)]
    have e : mn ((pre.length : Int) + 1) ((pre ++ cur :: (junk ++ [])).length : Int) = (pre.length : Int) + 1 := by
      unfold mn
      rw [if_neg (by simp <;> omega)]
    rw [e, if_pos (by omega), if_pos (by simp <;> omega)]
    rw [show ((pre.length : Int) + 1).toNat = (pre ++ [cur]).length by simp <;> omega]
    rw [show pre ++ cur :: (junk ++ []) = (pre ++ [cur]) ++ junk by simp, List.take_left]
  | t :: r, pre, junk, cur, n, hn, hl, hs => by
    have ha : pre ++ cur :: (junk ++ t :: r) = (pre ++ cur :: junk) ++ t :: r := by simp
    have hlen : (pre ++ cur :: (junk ++ t :: r)).length = pre.length + (junk.length + 1) + (t :: r).length := by simp <;> omega
    have hrd : rd_T31 (pre ++ cur :: (junk ++ t :: r)) n = t := by rw [ha]; exact rdS_at (by subst hn; simp)
    have hcur : rd_T31 (pre ++ cur :: (junk ++ t :: r)) (pre.length : Int) = cur := rdS_at rfl
    simp only [List.length_cons] at hl
    have hs' : cur.f2.size + (t.f2.size + sizeS r) ≤ 9223372036854775807 := by simpa [sizeS] using hs
    have w1 : wrap64 (n + 1) = n + 1 := w64 (by omega) (by omega)
    have e1 : ((pre.length + (junk.length + 1) + (t :: r).length : Nat) : Int) = ((pre.length + ((junk ++ [t]).length + 1) + r.length : Nat) : Int) := by simp <;> omega
    by_cases hk : t.f0 = cur.f0
    · refine Ev.step (f := fun k => normal_Of.l0 k (pre ++ joinS cur t :: ((junk ++ [t]) ++ r)) (pre.length : Int) ((pre.length + ((junk ++ [t]).length + 1) + r.length : Nat) : Int) (n + 1)) (fun k => ?_) ?_
      · rw [normal_Of.l0, if_pos (by subst hn; simp <;> omega), if_pos (by omega), if_pos (by rw [hlen]; subst hn; simp <;> omega), if_neg (by omega), if_pos (by omega), if_pos (by rw [hlen]; simp <;> omega), hrd, hcur, if_pos hk, Option.bind_some, setS_at rfl]
        simp only [rdS_at (c := (⟨cur.f0, wrap64 (cur.f1 + t.f1), cur.f2⟩ : Sp)) (r := junk ++ t :: r) (pre := pre) rfl]
        rw [if_pos (by omega), setS_at rfl, w1, e1]
        simp [joinS]
      · rw [runs, if_pos hk]
        exact of_loop r pre (junk ++ [t]) (joinS cur t) (n + 1) (by subst hn; simp <;> omega) (by simp <;> omega) (by simp [joinS, ByteArray.size_append]; omega)
    · have w2 : wrap64 ((pre.length : Int) + 1) = (pre.length : Int) + 1 := w64 (by omega) (by omega)
      rw [runs, if_neg hk]
      rcases junk with _ | ⟨j1, js⟩
      · refine Ev.step (f := fun k => normal_Of.l0 k ((pre ++ [cur]) ++ t :: ([] ++ r)) ((pre ++ [cur]).length : Int) (((pre ++ [cur]).length + (([] : List Sp).length + 1) + r.length : Nat) : Int) (n + 1)) (fun k => ?_) ?_
        · rw [normal_Of.l0, if_pos (by subst hn; simp <;> omega), if_pos (by omega), if_pos (by rw [hlen]; subst hn; simp <;> omega), if_neg (by omega), if_pos (by omega), if_pos (by rw [hlen]; simp <;> omega), hrd, hcur, if_neg hk, w2, if_pos (by omega), if_pos (by rw [hlen]; simp <;> omega), w1]
          rw [show pre ++ cur :: ([] ++ t :: r) = (pre ++ [cur]) ++ t :: r by simp, setS_at (by simp)]
          simp
          try (congr 1; done)
          try (congr 1; omega)
        · have := of_loop r (pre ++ [cur]) [] t (n + 1) (by subst hn; simp <;> omega) (by simp <;> omega) (by omega)
          simpa using this
      · refine Ev.step (f := fun k => normal_Of.l0 k ((pre ++ [cur]) ++ t :: ((js ++ [t]) ++ r)) ((pre ++ [cur]).length : Int) (((pre ++ [cur]).length + ((js ++ [t]).length + 1) + r.length : Nat) : Int) (n + 1)) (fun k => ?_) ?_
        · rw [normal_Of.l0, if_pos (by subst hn; simp <;> omega), if_pos (by omega), if_pos (by rw [hlen]; subst hn; simp <;> omega), if_neg (by omega), if_pos (by omega), if_pos (by rw [hlen]; simp <;> omega), hrd, hcur, if_neg hk, w2, if_pos (by omega), if_pos (by rw [hlen]; simp <;> omega), w1]
          rw [show pre ++ cur :: ((j1 :: js) ++ t :: r) = (pre ++ [cur]) ++ j1 :: (js ++ t :: r) by simp, setS_at (by simp)]
          simp
          congr 1
          omega
        · have := of_loop r (pre ++ [cur]) (js ++ [t]) t (n + 1) (by subst hn; simp <;> omega) (by simp; simp at hl; omega) (by omega)
          simpa using this

theorem merge_is (l : List Sp) (hl : l.length ≤ 4611686018427387904) (hs : sizeS l ≤ 9223372036854775807) : Ev (fun k => normal_Of.l0 k l 0 (l.length : Int) 0) (mergeS l) := by
  rcases l with _ | ⟨s, r⟩
  · refine Ev.step (f := fun _ => some []) (fun k => ?_) (Ev.now _)
    rw [normal_Of.l0, if_neg (by simp)]
    simp [mn, wrap64]
  · simp only [List.length_cons] at hl
    refine Ev.step (f := fun k => normal_Of.l0 k (s :: r) 0 ((s :: r).length : Int) 1) (fun k => ?_) ?_
    · rw [normal_Of.l0, if_pos (by simp <;> omega), if_pos (by omega), if_pos (by simp <;> omega), if_pos rfl, w64 (by omega) (by omega)]
      rfl
    · have := of_loop r [] [] s 1 (by simp) (by simp <;> omega) (by simpa [sizeS] using hs)
      have e : ((([] : List Sp).length + (([] : List Sp).length + 1) + r.length : Nat) : Int) = ((s :: r).length : Int) := by simp <;> omega
      rw [e] at this
      exact this

theorem sizeS_filter (p : Sp → Bool) : ∀ l, sizeS (l.filter p) ≤ sizeS l
  | [] => Nat.le_refl _
  | s :: l => by
    have := sizeS_filter p l
    by_cases h : p s = true
    · rw [List.filter_cons_of_pos h]; simp only [sizeS, List.map_cons, List.sum_cons] at this ⊢; omega
    · rw [List.filter_cons_of_neg h]; simp only [sizeS, List.map_cons, List.sum_cons] at this ⊢; omega

/-- normal.Of is the shortest form. -/
theorem normal_is (l : List Sp) (hl : l.length < 4398046511104) (hs : sizeS l ≤ 9223372036854775807) : Ev (fun k => normal_Of.f k l) (norm l) := by
  unfold normal_Of.f
  refine ev_some rfl (ev_if_pos (by simpa using hl) ?_)
  refine Ev.bind (deleteFunc_is l (by omega)) ?_
  exact merge_is (l.filter (fun s => !emptyS s)) (Nat.le_trans (List.length_filter_le _ _) (by omega)) (Nat.le_trans (sizeS_filter _ _) hs)

/-! Same. -/
theorem same_loop (a b : List Sp) (hl : a.length = b.length) (hm : a.length ≤ 4611686018427387904) : ∀ (r q pre pre2 : List Sp), a = pre ++ r → b = pre2 ++ q → pre.length = pre2.length →
    Ev (fun k => epitomeref04_Same.l0 k a b (pre.length : Int)) (decide (r = q))
  | [], q, pre, pre2, h1, h2, h3 => by
    have hq : q = [] := by
      have : q.length = 0 := by rw [h1, h2] at hl; simp at hl; omega
      exact List.eq_nil_of_length_eq_zero this
    refine Ev.step (f := fun _ => some true) (fun k => ?_) (by rw [hq]; exact Ev.now _)
    rw [epitomeref04_Same.l0, if_neg (by rw [h1]; simp)]
  | t :: r, [], pre, pre2, h1, h2, h3 => by
    rw [h1, h2] at hl
    simp at hl
    omega
  | t :: r, u :: q, pre, pre2, h1, h2, h3 => by
    have hlt : (pre.length : Int) < (a.length : Int) := by rw [h1]; simp <;> omega
    have ea : rd_T31 a (pre.length : Int) = t := by rw [h1]; exact rdS_at rfl
    have eb : rd_T31 b (pre.length : Int) = u := by rw [h2]; exact rdS_at (by rw [h3])
    have hc : ((!(t.f0 == u.f0) || (!(t.f1 == u.f1) || (!(t.f2.toList == u.f2.toList)))) = true) ↔ t ≠ u := by
      have hb : t.f2.toList = u.f2.toList ↔ t.f2 = u.f2 := by
        constructor
        · intro h
          rw [ByteArray.toList_eq, ByteArray.toList_eq] at h
          have := congrArg (fun l => (⟨l.toArray⟩ : ByteArray)) h
          exact ByteArray.ext (by simpa using this)
        · intro h; rw [h]
      obtain ⟨t0, t1, t2⟩ := t
      obtain ⟨u0, u1, u2⟩ := u
      simp at hb
      simp [hb]
      constructor
      · rintro (h | h | h) h2 h3 <;> simp_all
      · intro h
        by_cases h0 : t0 = u0
        · by_cases h1 : t1 = u1
          · exact .inr (.inr (fun h2 => h h0 h1 h2))
          · exact .inr (.inl h1)
        · exact .inl h0
    refine Ev.step (f := fun k => if t ≠ u then some false else epitomeref04_Same.l0 k a b (pre.length + 1 : Int)) (fun k => ?_) ?_
    · rw [epitomeref04_Same.l0, if_pos hlt, if_pos (by omega), if_pos (by rw [← hl]; exact hlt), ea, eb, w64 (by omega) (by omega)]
      by_cases h : t = u
      · rw [if_neg (fun hh => hc.1 hh h), if_neg (by simpa using h)]
      · rw [if_pos (hc.2 h), if_pos h]
    · by_cases h : t = u
      · refine ev_if_neg (by simpa using h) ?_
        have := same_loop a b hl hm r q (pre ++ [t]) (pre2 ++ [u]) (by simp [h1]) (by simp [h2]) (by simp [h3])
        simpa [h] using this
      · refine ev_if_pos h ?_
        have : decide (t :: r = u :: q) = false := by simp [h]
        rw [this]
        exact Ev.now _

/-- Same tells whether two rows are one. -/
theorem same_is (a b : List Sp) (hm : a.length ≤ 4611686018427387904) : Ev (fun k => epitomeref04_Same.f k a b) (decide (a = b)) := by
  unfold epitomeref04_Same.f
  by_cases h : (a.length : Int) = (b.length : Int)
  · refine ev_if_pos h ?_
    exact same_loop a b (by omega) hm a b [] [] rfl rfl rfl
  · refine ev_if_neg h ?_
    have : decide (a = b) = false := by
      rw [decide_eq_false_iff_not]
      intro e
      exact h (by rw [e])
    rw [this]
    exact Ev.now _

end Go.Proofs.Ytidmodnfodifgaa.F
