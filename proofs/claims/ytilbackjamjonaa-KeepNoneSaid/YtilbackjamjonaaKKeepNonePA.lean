import Derived.Test.YtilbackjamjonaaKCKeepNoneB
import Derived.Test.YtilbackjamjonaaKCKeepNonePA
import Derived.Below
import Derived.Deep.Draws
import Derived.Deep.AppendLies
import Derived.Maps.AppendAt
import Derived.OwnWalk
import Derived.Laws.BytesArg
import Derived.Laws.MakeOwn
import Derived.Laws.OwnMore
import Derived.Deep.OwnRows
import Derived.Tactics
import Derived.Lib.ConvBytes
import Derived.Laws.Slices
import Derived.WalkKit
import Derived.KernelRfl
import Derived.RowKit3
import Derived.Deep.LoopGhost
import Derived.Deep.QuietTactic
import Derived.BigQuiet
import Derived.WideLaws
import Derived.Deep.DeepCutAuto
import Derived.Deep.CutBlock
import Derived.Deep.RegionHeld3
import Derived.Laws.Rows
import Derived.Lib.AppendStr
import Derived.ArgAppend
import Derived.Laws.IdiomCopy
import Derived.RowKit
import Derived.OrdersHeld
import Derived.Laws.BitsLemmas
import Derived.Test.YtilbackjamjonaaProg
import Derived.Handy
import Derived.Maps.OwnOps
import Derived.Maps.OwnSet
import Derived.Maps.Views
import Derived.ProofKit
import Derived.OpenShut
import Derived.ShutString
import Derived.ChangeOld
import Derived.SizedLaws
import Derived.Test.YtilbackjamjonaaRows
import Derived.Carry
section
namespace Go.Proofs.Ytilbackjamjonaa.F
open Go.RowKit Go.Proofs.YtilbackjamjonaaW.PrintWords Go.Proofs.YtilbackjamjonaaW.PrintLast Go.Proofs.YtilbackjamjonaaW.PrintMore
attribute [local go_sem] max2_int min2_int max_two min_two max_three min_three max_four min_four cell_setCell_isSome
set_option linter.unusedVariables false
set_option linter.unusedSimpArgs false
def epitomelaw18_KeepNone.Pure : Prop := ∀ (l0 : List Int) (l1 : List Int) (a2 : Int), (l0.length ≤ maxLen ∧ ∀ x_ ∈ l0, (Lit.int .i64 x_).wf = true) → (l1.length ≤ maxLen ∧ ∀ x_ ∈ l1, (Lit.int .i64 x_).wf = true) → (Lit.int .i64 a2).wf = true → ∃ k, epitomelaw18_KeepNone.f k l0 l1 a2 = some true
end Go.Proofs.Ytilbackjamjonaa.F
end
section
namespace Go.Proofs.Ytilbackjamjonaa.F
open Go.RowKit Go.Proofs.YtilbackjamjonaaW.PrintWords Go.Proofs.YtilbackjamjonaaW.PrintLast Go.Proofs.YtilbackjamjonaaW.PrintMore
set_option linter.unusedVariables false
set_option linter.unusedSimpArgs false
theorem none_loop {w s e : List Int} {f fl : Int} (hs : s.length ≤ 30) (hi : s.all isInt = true) (hend : ∀ T : List Int, (∀ x, x ∈ T ↔ x ∈ s) → T.length ≤ 60 → Ev (fun k => epitomelaw18_KeepNone.l0 k f w fl e s T (-1)) true) :
    ∀ (n : Nat) (acc : List Int), n ≤ s.length → acc.length = 2 * (s.length - n) → (∀ x, (x ∈ acc ∨ x ∈ s.take n) ↔ x ∈ s) → Ev (fun k => epitomelaw18_KeepNone.l0 k f w fl e s acc ((n : Int) - 1)) true
  | 0, acc, _, ha, hm => hend acc (fun x => by have := hm x; simpa using this) (by omega)
  | n + 1, acc, hn, ha, hm => by
    have hlt : n < s.length := hn
    have ih := none_loop hs hi hend n (acc ++ [s.getD n 0, s.getD n 0]) (by omega) (by rw [List.length_append, ha]; simp; omega) (fun x => by
      rw [← hm x]
      have et : s.take (n + 1) = s.take n ++ [s.getD n 0] := by
        rw [List.getD_eq_getElem?_getD, List.getElem?_eq_getElem hlt, Option.getD_some, List.take_succ_eq_append_getElem hlt]
      rw [et]
      simp only [List.mem_append, List.mem_cons, List.mem_nil_iff, or_false]
      constructor
      · rintro ((h | h | h) | h)
        · exact .inl h
        · exact .inr (.inr h)
        · exact .inr (.inr h)
        · exact .inr (.inl h)
      · rintro (h | h | h)
        · exact .inl (.inl h)
        · exact .inr h
        · exact .inl (.inr (.inl h)))
    refine Ev.step (f := fun k => epitomelaw18_KeepNone.l0 k f w fl e s (acc ++ [s.getD n 0, s.getD n 0]) ((n : Int) - 1)) (fun k => ?_) ih
    have e1 : ((n + 1 : Nat) : Int) - 1 = (n : Int) := by omega
    have e2 : rd s (n : Int) = s.getD n 0 := rd_nat s n
    rw [e1, epitomelaw18_KeepNone.l0, if_pos (by omega), if_pos (by omega), if_pos (by omega), Option.bind_some, e2, if_pos (by simp; omega), w64 (by omega) (by omega)]
theorem Pure.KeepNone : epitomelaw18_KeepNone.Pure := by
  intro l0 l1 f h0 h1 _
  obtain ⟨w, hw, hr⟩ := fit_row l0 h0
  have hf := hr.few
  have hp := hr.pos
  have hwm : w.length ≤ maxLen := by unfold maxLen; omega
  have ht := take_wf2 h1 30
  have htl : (l1.take 30).length ≤ 30 := List.length_take_le _ _
  obtain ⟨s, hs⟩ : ∃ s, l1.take 30 = s := ⟨_, rfl⟩
  rw [hs] at ht htl
  have hsi := all_isInt ht.2
  have pw := rising_pairwise.1 hr.rises
  have hfl := floorOf_lt w f hp
  obtain ⟨fl, hfe⟩ : ∃ fl, floorOf w f = fl := ⟨_, rfl⟩
  obtain ⟨m, hm⟩ : ∃ m, w.drop fl = m := ⟨_, rfl⟩
  rw [hfe] at hfl
  have dpw : m.Pairwise (· < ·) := by rw [← hm]; exact pw.sublist (List.drop_sublist _ _)
  have ml : m.length = w.length - fl := by rw [← hm, List.length_drop]
  have mi : ∀ x ∈ m, x ∈ w := fun x hx => List.mem_of_mem_drop (hm ▸ hx)
  have m0 : rd m 0 = w.getD fl 0 := by
    have := getD_drop w fl 0
    rw [hm] at this
    exact this
  have mL : rd m (m.length - 1) = w.getD (w.length - 1) 0 := by
    rw [rd_last (by omega)]
    have := getD_drop w fl (m.length - 1)
    rw [hm] at this
    rw [this]
    congr 1
    omega
  have keep : ∀ t : List Int, t.length ≤ 60 → t.all isInt = true → keep_Of.f w t f = some (keptOf m t) := by
    intro t ht hti
    have := keepOf_is f hp (by omega) (show t.length < 17592186044416 by omega) hr.ints hti
    rw [hfe, hm] at this
    exact this
  have kl : ∀ t : List Int, (keptOf m t).length ≤ maxLen := fun t => by
    have := List.length_filter_le (wants m t) m
    unfold maxLen keptOf
    omega
  have memF : w.getD fl 0 ∈ m := by
    rw [← m0, ← hm]
    have : 0 < (w.drop fl).length := by rw [hm]; omega
    show (w.drop fl).getD 0 0 ∈ w.drop fl
    rw [List.getD_eq_getElem?_getD, List.getElem?_eq_getElem this]
    exact List.getElem_mem _
  have memL : w.getD (w.length - 1) 0 ∈ m := by
    rw [← mL, rd_last (by omega)]
    have : m.length - 1 < m.length := by omega
    rw [List.getD_eq_getElem?_getD, List.getElem?_eq_getElem this]
    exact List.getElem_mem _
  obtain ⟨ends, he⟩ : ∃ ends : List Int, (if fl < w.length - 1 then [w.getD fl 0, w.getD (w.length - 1) 0] else [w.getD fl 0]) = ends := ⟨_, rfl⟩
  have kE : keptOf m [] = ends := by
    refine ext_rising (kept_rising dpw []) ?_ ?_
    · rw [← he]
      split
      · next h => simpa using hr.rises fl (w.length - 1) h (by omega)
      · simp
    · intro x
      rw [kept_mem, m0, mL, ← he]
      split
      · constructor
        · rintro ⟨_, h | h | h⟩
          · rw [h]; simp
          · rw [h]; simp
          · cases h
        · intro h
          simp only [List.mem_cons, List.mem_nil_iff, or_false] at h
          rcases h with h | h
          · exact ⟨h ▸ memF, .inl h⟩
          · exact ⟨h ▸ memL, .inr (.inl h)⟩
      · next h =>
        have e : w.length - 1 = fl := by omega
        constructor
        · rintro ⟨_, h | h | h⟩
          · rw [h]; simp
          · rw [h, e]; simp
          · cases h
        · intro h
          rw [List.mem_singleton] at h
          exact ⟨h ▸ memF, .inl h⟩
  have small : ∀ x ∈ m, 0 ≤ x ∧ x ≤ w.getD (w.length - 1) 0 := by
    intro x hx
    obtain ⟨j, hj⟩ := List.getElem?_of_mem (mi x hx)
    have hjl : j < w.length := (List.getElem?_eq_some_iff.1 hj).1
    have e : w.getD j 0 = x := by rw [List.getD_eq_getElem?_getD, hj]; rfl
    have h2 := hr.small j hjl
    rw [e] at h2
    refine ⟨h2.1, ?_⟩
    rcases Nat.lt_or_ge j (w.length - 1) with h | h
    · have := hr.rises j (w.length - 1) h (by omega)
      omega
    · have : j = w.length - 1 := by omega
      rw [← e, this]
      exact Int.le_refl _
  have lastB := hr.small (w.length - 1) (by omega)
  have kO : keptOf m [-1, w.getD (w.length - 1) 0 + 1] = ends := by
    rw [← kE]
    refine kept_like dpw (fun x hx => ?_)
    have := small x hx
    simp only [List.mem_cons, List.mem_nil_iff, or_false, iff_false]
    omega
  have kW : keptOf m w = m := kept_all dpw mi
  have wi : w.all isInt = true := hr.ints
  have oi : [-1, w.getD (w.length - 1) 0 + 1].all isInt = true := by
    have hb := lastB
    generalize w.getD (w.length - 1) 0 = z at hb ⊢
    unfold isInt
    simp
    omega
  have eI : wrap64 ((w.length : Int) - 1) = ((w.length - 1 : Nat) : Int) := by rw [w64 (by omega) (by omega)]; omega
  have eR : rd w ((w.length - 1 : Nat) : Int) = w.getD (w.length - 1) 0 := rd_nat w _
  have sE := same_row ends ends (by rw [← kE]; exact kl [])
  have sM := same_row m m (by unfold maxLen; omega)
  rw [decide_eq_true rfl] at sE sM
  have lp := none_loop (w := w) (s := s) (e := ends) (f := f) (fl := (fl : Int)) htl hsi (by
    intro T hT hTl
    have Ti := all_sub hsi (fun x hx => (hT x).1 hx)
    have kT : keptOf m T = keptOf m s := kept_like dpw (fun x _ => hT x)
    have sS := same_row (keptOf m s) (keptOf m s) (kl s)
    rw [decide_eq_true rfl] at sS
    refine Ev.step (f := fun k => (keep_Of.f w [] f).bind fun t128 => (epitomeref15_SameRow.f k t128 ends).bind fun t131 => if t131 = true then (keep_Of.f w [-1, w.getD (w.length - 1) 0 + 1] f).bind fun t136 => (epitomeref15_SameRow.f k t136 ends).bind fun t139 => (if t139 = true then (keep_Of.f w w f).bind fun t140 => (epitomeref15_SameRow.f k t140 (w.drop fl)).bind fun t147 => (if t147 = true then (keep_Of.f w T f).bind fun t148 => (keep_Of.f w s f).bind fun t151 => (epitomeref15_SameRow.f k t148 t151).bind fun t154 => some t154 else some false) else some false) else some false) (fun k => ?_) ?_
    · rw [epitomelaw18_KeepNone.l0, if_neg (by omega)]
      simp only [eI, eR]
      rw [w64 (x := w.getD (w.length - 1) 0 + 1) (by omega) (by omega)]
      simp only [if_pos (show (0 : Int) ≤ ((w.length - 1 : Nat) : Int) by omega), if_pos (show ((w.length - 1 : Nat) : Int) < (w.length : Int) by omega), if_pos (show (0 : Int) ≤ (fl : Int) by omega), if_pos (show (fl : Int) ≤ (w.length : Int) by omega), Int.toNat_natCast]
    · refine ev_some (keep [] (by simp) (by simp)) ?_
      rw [kE]
      refine Ev.bind sE (ev_if_pos rfl (ev_some (keep _ (by simp) oi) ?_))
      rw [kO]
      refine Ev.bind sE (ev_if_pos rfl (ev_some (keep w (by omega) wi) ?_))
      rw [kW, hm]
      refine Ev.bind sM (ev_if_pos rfl (ev_some (keep T hTl Ti) (ev_some (keep s (by omega) hsi) ?_)))
      rw [kT]
      exact Ev.bind sS (Ev.now true)) s.length [] (Nat.le_refl _) (by simp) (fun x => by simp)
  have j1 : Ev (fun k => epitomelaw18_KeepNone.j1 k l1 f w (fl : Int) ends) true := by
    refine Ev.step (f := fun k => epitomelaw18_KeepNone.l0 k f w (fl : Int) ends s [] ((s.length : Int) - 1)) (fun k => ?_) lp
    rw [epitomelaw18_KeepNone.j1, few18, hs, Option.bind_some, w64 (by omega) (by omega)]
  apply Ev.rounds
  unfold epitomelaw18_KeepNone.f
  have kf := keepFloor_ev w f hwm
  rw [hfe] at kf
  refine Ev.bind shown18 (Ev.bind hw (Ev.bind kf (ev_if_pos rfl (ev_if_neg (by omega) ?_))))
  rw [decide_eq_false (by omega)]
  have eF : rd w (fl : Int) = w.getD fl 0 := rd_nat w fl
  refine Ev.step (f := fun k => epitomelaw18_KeepNone.j1 k l1 f w (fl : Int) ends) (fun k => ?_) j1
  rw [epitomelaw18_KeepNone.j0, if_neg (by simp), if_pos (by omega), if_pos (by omega), Option.bind_some, eF, eI, eR, ← he]
  by_cases h : fl < w.length - 1
  · rw [if_pos (by omega), if_pos (by omega), if_pos (by omega), if_pos (by simp), if_pos h]
    rfl
  · rw [if_neg (by omega), if_neg h]
end Go.Proofs.Ytilbackjamjonaa.F
end
section
namespace Go.Proofs.Ytilbackjamjonaa.keepNone
open Go.ChangeShapes Go.WideShapes Go.ChangeAt Go.RowKit Go.Proofs.Ytilbackjamjonaa.F
open Go.Proofs.YtilbackjamjonaaW.PrintWords
open Go.ChangeMaps (open_string shut_string)
set_option linter.unusedVariables false
theorem own : ownKnob Try.prog.godebug = none := by kernel_rfl
theorem laidOut : laidOutB Try.prog = true := by kernel_rfl
set_option maxRecDepth 100000 in
theorem lifted (os : Os) (started : os.Started) (H : Type) (enc : TypeId × Value → H) :
    ReturnsInHanded {} Try.checked os 4 .any (Rows.keepNoneSpec.pre6 enc Try.prog Try.f4 Rows.keepNoneRow.domain false) (Rows.keepNoneSpec.post enc Try.prog Try.f4 false true false false) := by
  refine returnsInHanded_of_change_sized (C := Try.checked) own started (by kernel_rfl) Try.func4
    (ChangeSpec.witness6 (enc := enc) (C := Try.checked) false ⟨#[], #[.slice none 0 0, .slice none 0 0, .int .i64 0], []⟩ 8 (by kernel_rfl) (by kernel_rfl) (by kernel_rfl) (by kernel_rfl)) ?_
  intro W base args ds gs before hval0 hW hcnd hsz0 _
  have hval : ∀ (j : Nat) t v, Try.f4.params[j]? = some t → args[j]? = some v → Value.okWide Try.prog W .any base t v := hval0
  have hW' := hW
  obtain ⟨p, q, hA0, hV, rfl, hfz, hnd⟩ := hW
  have hA : DataW.TrodAll enc Try.prog W 0 (fun _ => true) true Try.f4.params.toList args.toList ds p := hA0
  rw [Try.params4] at hA hval
  obtain ⟨v0, vs0, d0, ds0, p0, q0, hargs, rfl, rfl, h0, r0⟩ := trodAll_cons hA
  obtain ⟨v1, vs1, d1, ds1, p1, q1, rfl, rfl, rfl, h1, r1⟩ := trodAll_cons r0
  obtain ⟨v2, vs2, d2, ds2, p2, q2, rfl, rfl, rfl, h2, r2⟩ := trodAll_cons r1
  obtain ⟨rfl, rfl, rfl⟩ := trodAll_nil r2
  obtain rfl : args = #[v0, v1, v2] := by cases args; simp_all
  obtain ⟨rfl, rfl⟩ := trodVars_none hV
  obtain ⟨A0, n0, c0, rfl⟩ := okWide_slice Try.underlying22 (hval 0 22 v0 rfl rfl)
  have k0 := h0
  have lt0 : ∀ x ∈ p0, x.block < W.heap.size := by obtain ⟨m, hm⟩ := k0; exact DataW.trod_lt m _ _ _ hm
  obtain ⟨l0, z0, hv0⟩ : ∃ l, (Kd.slice 3 (Kd.int .i64)).K W l [Value.slice A0 n0 c0] ∧ (fun v_ => (v_.length ≤ maxLen ∧ ∀ x_ ∈ v_, (Lit.int .i64 x_).wf = true)) l := by
    obtain ⟨fuel, hf⟩ := h0
    exact (opens_slice Try.underlying22 (by kernel_rfl) (opens_int Try.underlying3)) enc W _ _ _ _ _ _ hf
  obtain ⟨A_, c_, e, hc0, hr0⟩ := z0
  simp only [List.cons.injEq, Value.slice.injEq, and_true] at e
  obtain ⟨rfl, rfl, rfl⟩ := e
  obtain ⟨A1, n1, c1, rfl⟩ := okWide_slice Try.underlying22 (hval 1 22 v1 rfl rfl)
  have k1 := h1
  have lt1 : ∀ x ∈ p1, x.block < W.heap.size := by obtain ⟨m, hm⟩ := k1; exact DataW.trod_lt m _ _ _ hm
  obtain ⟨l1, z1, hv1⟩ : ∃ l, (Kd.slice 3 (Kd.int .i64)).K W l [Value.slice A1 n1 c1] ∧ (fun v_ => (v_.length ≤ maxLen ∧ ∀ x_ ∈ v_, (Lit.int .i64 x_).wf = true)) l := by
    obtain ⟨fuel, hf⟩ := h1
    exact (opens_slice Try.underlying22 (by kernel_rfl) (opens_int Try.underlying3)) enc W _ _ _ _ _ _ hf
  obtain ⟨A_, c_, e, hc1, hr1⟩ := z1
  simp only [List.cons.injEq, Value.slice.injEq, and_true] at e
  obtain ⟨rfl, rfl, rfl⟩ := e
  obtain ⟨a2, rfl, rfl, rfl, hv2⟩ := open_int Try.underlying3 (hval 2 3 v2 rfl rfl) h2
  obtain ⟨k, h⟩ := Pure.KeepNone l0 l1 a2 hv0 hv1 hv2
  refine (epitomelaw18_KeepNone.calls k _ _ l0 _ _ l1 a2 true ⟨rfl⟩ W hr0 hc0 hr1 hc1 h).mono ?_
  rintro e W' ⟨rfl, hd⟩
  have bel : Below W.heap.size W W' := hd
  exact ⟨_, rfl, _, _, _, [], _, [], hW', trodAll_mk1 (shut_bool Try.underlying4 _), (trodAll_cons_mk (Below.trod laidOut (by kernel_rfl) (of_decide_eq_true (by kernel_rfl)) k0 bel lt0) (trodAll_cons_mk (Below.trod laidOut (by kernel_rfl) (of_decide_eq_true (by kernel_rfl)) k1 bel lt1) (trodAll_cons_mk (shut_int Try.underlying3 hv2) trodAll_mk0))), rfl, bel.frame _, fun h => by cases h⟩
theorem over : Rows.keepNoneRow.holds Try.pinned (OpenSpec.ofChange Rows.keepNoneSpec) :=
  OpenClaim.holds_of_wide 4 Try.f4 rfl rfl rfl rfl rfl rfl rfl ⟨rfl, rfl, rfl, rfl, rfl⟩ rfl rfl rfl rfl rfl (by kernel_rfl) Try.func4 (by kernel_rfl)
    (of_decide_eq_true (by kernel_rfl)) (by unfold Func.isWrapper; first | (rw [if_pos (by decide +kernel)]; kernel_rfl) | (rw [if_neg (by decide +kernel)]; exact ⟨rfl, rfl⟩))
    (fun os started H enc _ => lifted os started H enc)
theorem proved : Rows.KeepNoneSaid := over
end Go.Proofs.Ytilbackjamjonaa.keepNone
namespace Go.Proofs.Ytilbackjamjonaa
theorem keepNone_holds : Rows.KeepNoneSaid := keepNone.proved
#print axioms keepNone_holds
end Go.Proofs.Ytilbackjamjonaa
end
