-- YtidmodnfodifgaaPNormalIs5
import Derived.Test.YtidmodnfodifgaaBase
import Derived.Test.YtidmodnfodifgaaFEpitomeref05Is
import Derived.Test.YtidmodnfodifgaaFEpitomeref05Of
import Derived.Test.YtidmodnfodifgaaFNormalIs
import Derived.Test.YtidmodnfodifgaaPEv
import Derived.Test.YtidmodnfodifgaaPNormal
namespace Go.Proofs.Ytidmodnfodifgaa.F
open Go.RowKit Go.Proofs.YtidmodnfodifgaaW.PrintWords Go.Proofs.YtidmodnfodifgaaW.PrintLast Go.Proofs.YtidmodnfodifgaaW.PrintMore
set_option linter.unusedVariables false
set_option linter.unusedSimpArgs false
/-! Is, and the reference of layer 5. -/
def isNp : Option Int → List Sp → Bool
  | _, [] => true
  | p, s :: r => !emptyS s && (decide (p ≠ some s.f0) && isNp (some s.f0) r)
def isN (l : List Sp) : Bool := isNp none l
def lastKind (l : List Sp) : Option Int := l.getLast?.map (·.f0)

theorem normalIs_loop (l : List Sp) (hl : l.length ≤ 4611686018427387904) : ∀ (r pre : List Sp), l = pre ++ r →
    Ev (fun k => normal_Is.l0 k l l (l.length : Int) (pre.length : Int)) (isNp (lastKind pre) r)
  | [], pre, h => by
    refine Ev.step (f := fun _ => some true) (fun k => ?_) (Ev.now _)
    rw [normal_Is.l0, if_neg (by subst h; simp)]
  | t :: r, pre, h => by
    have hlt : (pre.length : Int) < (l.length : Int) := by subst h; simp <;> omega
    have hrd : rd_T31 l (pre.length : Int) = t := by rw [h]; exact rdS_at rfl
    have next := normalIs_loop l hl r (pre ++ [t]) (by simp [h])
    have hk : lastKind (pre ++ [t]) = some t.f0 := by simp [lastKind]
    have w1 : wrap64 ((pre.length : Int) + 1) = ((pre ++ [t]).length : Int) := by rw [w64 (by omega) (by omega)]; simp
    rw [hk] at next
    refine Ev.step (f := fun k => _) (fun k => by rw [normal_Is.l0, if_pos hlt, if_pos (by omega), if_pos hlt, hrd, empty_at, w1]) ?_
    refine ev_some rfl ?_
    cases he : emptyS t with
    | true => refine ev_if_pos rfl ?_; simp [isNp, he]; exact Ev.now _
    | false =>
      refine ev_if_neg (by simp) ?_
      rcases snoc_cases pre with rfl | ⟨q, p, rfl⟩
      · refine ev_if_neg (by simp) ?_
        simpa [isNp, he, lastKind] using next
      · have hql : (q ++ [p]).length = q.length + 1 := by simp
        have hp : rd_T31 l (wrap64 (((q ++ [p]).length : Int) - 1)) = p := by
          rw [h, show (q ++ [p]) ++ t :: r = q ++ p :: (t :: r) by simp]
          exact rdS_at (by rw [w64 (by omega) (by omega)]; simp)
        have hq : wrap64 (((q ++ [p]).length : Int) - 1) = q.length := by rw [w64 (by omega) (by omega)]; simp
        refine ev_if_pos (by omega) (ev_if_pos (by rw [hq]; omega) (ev_if_pos (by rw [hq]; omega) ?_))
        rw [hp]
        by_cases hkk : t.f0 = p.f0
        · refine ev_if_pos hkk ?_
          have : isNp (lastKind (q ++ [p])) (t :: r) = false := by simp [isNp, lastKind, hkk]
          rw [this]; exact Ev.now _
        · refine ev_if_neg hkk ?_
          have : isNp (lastKind (q ++ [p])) (t :: r) = isNp (some t.f0) r := by
            have hkk' : ¬ p.f0 = t.f0 := fun h => hkk h.symm
            simp [isNp, lastKind, he, hkk']
          rw [this]; exact next

theorem normalIs_is (l : List Sp) (hl : l.length ≤ 4611686018427387904) : Ev (fun k => normal_Is.f k l) (isN l) := by
  unfold normal_Is.f
  exact normalIs_loop l hl l [] rfl

theorem refIs_loop (l : List Sp) (hl : l.length ≤ 4611686018427387904) : ∀ (r pre : List Sp), l = pre ++ r →
    Ev (fun k => epitomeref05_Is.l0 k l (pre.length : Int)) (isNp (lastKind pre) r)
  | [], pre, h => by
    refine Ev.step (f := fun _ => some true) (fun k => ?_) (Ev.now _)
    rw [epitomeref05_Is.l0, if_neg (by subst h; simp)]
  | t :: r, pre, h => by
    have hlt : (pre.length : Int) < (l.length : Int) := by subst h; simp <;> omega
    have hrd : rd_T31 l (pre.length : Int) = t := by rw [h]; exact rdS_at rfl
    have next := refIs_loop l hl r (pre ++ [t]) (by simp [h])
    have hk : lastKind (pre ++ [t]) = some t.f0 := by simp [lastKind]
    have w1 : wrap64 ((pre.length : Int) + 1) = ((pre ++ [t]).length : Int) := by rw [w64 (by omega) (by omega)]; simp
    rw [hk] at next
    have rest : emptyS t = false → Ev (fun k => if (pre.length : Int) > 0 then (if 0 ≤ (wrap64 ((pre.length : Int) - 1)) then (if (wrap64 ((pre.length : Int) - 1)) < (l.length : Int) then (if (rd_T31 l (wrap64 ((pre.length : Int) - 1))).f0 = t.f0 then some false else epitomeref05_Is.l0 k l ((pre ++ [t]).length : Int)) else none) else none) else epitomeref05_Is.l0 k l ((pre ++ [t]).length : Int)) (isNp (lastKind pre) (t :: r)) := by
      intro he
      rcases snoc_cases pre with rfl | ⟨q, p, rfl⟩
      · refine ev_if_neg (by simp) ?_
        simpa [isNp, he, lastKind] using next
      · have hql : (q ++ [p]).length = q.length + 1 := by simp
        have hp : rd_T31 l (wrap64 (((q ++ [p]).length : Int) - 1)) = p := by
          rw [h, show (q ++ [p]) ++ t :: r = q ++ p :: (t :: r) by simp]
          exact rdS_at (by rw [w64 (by omega) (by omega)]; simp)
        have hq : wrap64 (((q ++ [p]).length : Int) - 1) = q.length := by rw [w64 (by omega) (by omega)]; simp
        refine ev_if_pos (by omega) (ev_if_pos (by rw [hq]; omega) (ev_if_pos (by rw [hq]; omega) ?_))
        rw [hp]
        by_cases hkk : p.f0 = t.f0
        · refine ev_if_pos hkk ?_
          have : isNp (lastKind (q ++ [p])) (t :: r) = false := by simp [isNp, lastKind, hkk]
          rw [this]; exact Ev.now _
        · refine ev_if_neg hkk ?_
          have : isNp (lastKind (q ++ [p])) (t :: r) = isNp (some t.f0) r := by simp [isNp, lastKind, he, hkk]
          rw [this]; exact next
    refine Ev.step (f := fun k => _) (fun k => by rw [epitomeref05_Is.l0, if_pos hlt, if_pos (by omega), hrd, w1]) ?_
    by_cases h1 : t.f1 = 0
    · refine ev_if_pos h1 ?_
      by_cases h2 : t.f2.toList = []
      · refine ev_if_pos h2 ?_
        have he : emptyS t = true := by unfold emptyS; simp [h1, h2]
        have : isNp (lastKind pre) (t :: r) = false := by simp [isNp, he]
        rw [this]; exact Ev.now _
      · exact ev_if_neg h2 (rest (by unfold emptyS; simp [h2]))
    · exact ev_if_neg h1 (rest (by unfold emptyS; simp [h1]))

theorem refIs_is (l : List Sp) (hl : l.length ≤ 4611686018427387904) : Ev (fun k => epitomeref05_Is.f k l) (isN l) := by
  unfold epitomeref05_Is.f
  exact refIs_loop l hl l [] rfl

/-- Behind a span at the end of what was made. -/
theorem refNorm_loop (l : List Sp) (hl : l.length < 4398046511104) : ∀ (r pre : List Sp), l = pre ++ r →
    (sizeS r ≤ 9223372036854775807 → Ev (fun k => epitomeref05_Of.l0 k l [] (pre.length : Int)) (norm r)) ∧
    ∀ (q : List Sp) (cur : Sp), q.length + 1 ≤ pre.length → cur.f2.size + sizeS r ≤ 9223372036854775807 →
      Ev (fun k => epitomeref05_Of.l0 k l (q ++ [cur]) (pre.length : Int)) (q ++ runs cur (r.filter (fun s => !emptyS s)))
  | [], pre, h => by
    constructor
    · intro _
      refine Ev.step (f := fun _ => some []) (fun k => ?_) (Ev.now _)
      rw [epitomeref05_Of.l0, if_neg (by subst h; simp)]
    · intro q cur hq hs
      refine Ev.step (f := fun _ => some (q ++ [cur])) (fun k => ?_) (Ev.now _)
      rw [epitomeref05_Of.l0, if_neg (by subst h; simp)]
  | t :: r, pre, h => by
    have hlt : (pre.length : Int) < (l.length : Int) := by subst h; simp <;> omega
    have hrd : rd_T31 l (pre.length : Int) = t := by rw [h]; exact rdS_at rfl
    obtain ⟨n1, n2⟩ := refNorm_loop l hl r (pre ++ [t]) (by simp [h])
    have w1 : wrap64 ((pre.length : Int) + 1) = ((pre ++ [t]).length : Int) := by rw [w64 (by omega) (by omega)]; simp
    have hsz : sizeS (t :: r) = t.f2.size + sizeS r := by simp [sizeS]
    have head : ∀ x3 : List Sp, ∀ w, Ev (fun k => epitomeref05_Of.j1 k l x3 (pre.length : Int) (emptyS t) t.f0 t.f1 t.f2) w → Ev (fun k => epitomeref05_Of.l0 k l x3 (pre.length : Int)) w := by
      intro x3 w hw
      refine Ev.step (f := fun k => epitomeref05_Of.j1 k l x3 (pre.length : Int) (emptyS t) t.f0 t.f1 t.f2) (fun k => ?_) hw
      rw [epitomeref05_Of.l0, if_pos hlt, if_pos (by omega), hrd]
      by_cases h1 : t.f1 = 0
      · rw [if_pos h1]; simp [emptyS, h1]
      · rw [if_neg h1]; simp [emptyS, h1]
    constructor
    · intro hs
      refine head _ _ ?_
      cases he : emptyS t with
      | true =>
        refine Ev.step (f := fun k => epitomeref05_Of.l0 k l [] ((pre ++ [t]).length : Int)) (fun k => by rw [epitomeref05_Of.j1, if_pos rfl, w1]) ?_
        have : norm (t :: r) = norm r := by simp [norm, he]
        rw [this]
        exact n1 (by omega)
      | false =>
        refine Ev.step (f := fun k => epitomeref05_Of.l0 k l ([] ++ [t]) ((pre ++ [t]).length : Int)) (fun k => by rw [epitomeref05_Of.j1, if_neg (by simp), if_neg (by simp), if_pos (by simp), w1]) ?_
        have : norm (t :: r) = [] ++ runs t (r.filter (fun s => !emptyS s)) := by simp [norm, he, mergeS]
        rw [this]
        exact n2 [] t (by simp) (by omega)
    · intro q cur hq hs
      refine head _ _ ?_
      cases he : emptyS t with
      | true =>
        refine Ev.step (f := fun k => epitomeref05_Of.l0 k l (q ++ [cur]) ((pre ++ [t]).length : Int)) (fun k => by rw [epitomeref05_Of.j1, if_pos rfl, w1]) ?_
        have : (t :: r).filter (fun s => !emptyS s) = r.filter (fun s => !emptyS s) := by simp [he]
        rw [this]
        exact n2 q cur (by simp; omega) (by omega)
      | false =>
        have hf : (t :: r).filter (fun s => !emptyS s) = t :: r.filter (fun s => !emptyS s) := by simp [he]
        have hqc : (q ++ [cur]).length = q.length + 1 := by simp
        have hq1 : wrap64 (((q ++ [cur]).length : Int) - 1) = q.length := by rw [w64 (by omega) (by omega)]; simp
        have hcur : rd_T31 (q ++ [cur]) (q.length : Int) = cur := rdS_at rfl
        have hql : q.length + 1 ≤ l.length := by omega
        rw [hf]
        by_cases hk : cur.f0 = t.f0
        · refine Ev.step (f := fun k => epitomeref05_Of.l0 k l (q ++ [joinS cur t]) ((pre ++ [t]).length : Int)) (fun k => ?_) ?_
          · rw [epitomeref05_Of.j1, if_neg (by simp), if_pos (by omega), hq1, if_pos (by omega), if_pos (by omega), hcur, if_pos hk, Option.bind_some, setS_at rfl]
            simp only [rdS_at (c := (⟨cur.f0, wrap64 (cur.f1 + t.f1), cur.f2⟩ : Sp)) (r := []) (pre := q) rfl]
            rw [if_pos (by omega), setS_at rfl, w1]
            rfl
          · rw [runs, if_pos hk.symm]
            exact n2 q (joinS cur t) (by simp; omega) (by simp [joinS, ByteArray.size_append]; omega)
        · refine Ev.step (f := fun k => epitomeref05_Of.l0 k l ((q ++ [cur]) ++ [t]) ((pre ++ [t]).length : Int)) (fun k => ?_) ?_
          · rw [epitomeref05_Of.j1, if_neg (by simp), if_pos (by omega), hq1, if_pos (by omega), if_pos (by omega), hcur, if_neg hk, if_pos (by simp; omega), w1]
          · rw [runs, if_neg (fun h => hk h.symm)]
            have := n2 (q ++ [cur]) t (by simp; omega) (by omega)
            simpa using this

theorem refNorm_is (l : List Sp) (hl : l.length < 4398046511104) (hs : sizeS l ≤ 9223372036854775807) : Ev (fun k => epitomeref05_Of.f k l) (norm l) := by
  unfold epitomeref05_Of.f
  exact (refNorm_loop l hl l [] rfl).1 hs

theorem runs_length : ∀ (r : List Sp) (c : Sp), (runs c r).length ≤ r.length + 1
  | [], c => by simp [runs]
  | t :: r, c => by
    rw [runs]
    split
    · have := runs_length r (joinS c t); simp; omega
    · have := runs_length r t; simp; omega
theorem norm_length (l : List Sp) : (norm l).length ≤ l.length := by
  unfold norm
  have := List.length_filter_le (fun s => !emptyS s) l
  generalize l.filter (fun s => !emptyS s) = f at *
  cases f with
  | nil => simp [mergeS]
  | cons s r => have := runs_length r s; simp [mergeS] at *; omega


end Go.Proofs.Ytidmodnfodifgaa.F
