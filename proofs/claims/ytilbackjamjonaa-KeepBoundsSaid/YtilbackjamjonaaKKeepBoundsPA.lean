import Derived.Test.YtilbackjamjonaaKCKeepBoundsB
import Derived.Test.YtilbackjamjonaaKCKeepBoundsPA
import Derived.Below
import Derived.Deep.Draws
import Derived.Deep.AppendLies
import Derived.Maps.AppendAt
import Derived.OwnWalk
import Derived.Laws.BytesArg
import Derived.Laws.MakeOwn
import Derived.Laws.OwnMore
import Derived.Deep.OwnRows
import Derived.Tactics
import Derived.Lib.ConvBytes
import Derived.Laws.Slices
import Derived.WalkKit
import Derived.KernelRfl
import Derived.RowKit3
import Derived.Deep.LoopGhost
import Derived.Deep.QuietTactic
import Derived.BigQuiet
import Derived.WideLaws
import Derived.Deep.DeepCutAuto
import Derived.Deep.CutBlock
import Derived.Deep.RegionHeld3
import Derived.Laws.Rows
import Derived.Lib.AppendStr
import Derived.ArgAppend
import Derived.Laws.IdiomCopy
import Derived.RowKit
import Derived.OrdersHeld
import Derived.Laws.BitsLemmas
import Derived.Test.YtilbackjamjonaaProg
import Derived.Handy
import Derived.Maps.OwnOps
import Derived.Maps.OwnSet
import Derived.Maps.Views
import Derived.ProofKit
import Derived.OpenShut
import Derived.ShutString
import Derived.ChangeOld
import Derived.SizedLaws
import Derived.Test.YtilbackjamjonaaRows
import Derived.Carry
section
namespace Go.Proofs.Ytilbackjamjonaa.F
open Go.RowKit Go.Proofs.YtilbackjamjonaaW.PrintWords Go.Proofs.YtilbackjamjonaaW.PrintLast Go.Proofs.YtilbackjamjonaaW.PrintMore
attribute [local go_sem] max2_int min2_int max_two min_two max_three min_three max_four min_four cell_setCell_isSome
set_option linter.unusedVariables false
set_option linter.unusedSimpArgs false
def epitomelaw18_KeepBounds.Pure : Prop := ∀ (l0 : List Int) (l1 : List Int) (a2 : Int), (l0.length ≤ maxLen ∧ ∀ x_ ∈ l0, (Lit.int .i64 x_).wf = true) → (l1.length ≤ maxLen ∧ ∀ x_ ∈ l1, (Lit.int .i64 x_).wf = true) → (Lit.int .i64 a2).wf = true → ∃ k, epitomelaw18_KeepBounds.f k l0 l1 a2 = some true
end Go.Proofs.Ytilbackjamjonaa.F
end
section
namespace Go.Proofs.Ytilbackjamjonaa.F
open Go.RowKit Go.Proofs.YtilbackjamjonaaW.PrintWords Go.Proofs.YtilbackjamjonaaW.PrintLast Go.Proofs.YtilbackjamjonaaW.PrintMore
set_option linter.unusedVariables false
set_option linter.unusedSimpArgs false
theorem mem_getD {l : List Int} {x : Int} : x ∈ l ↔ ∃ i, i < l.length ∧ l.getD i 0 = x := by
  constructor
  · intro h
    obtain ⟨j, hj⟩ := List.getElem?_of_mem h
    exact ⟨j, (List.getElem?_eq_some_iff.1 hj).1, by rw [List.getD_eq_getElem?_getD, hj]; rfl⟩
  · rintro ⟨i, hi, rfl⟩
    rw [List.getD_eq_getElem?_getD, List.getElem?_eq_getElem hi]
    exact List.getElem_mem _
theorem contains_iff {l : List Int} {x : Int} : l.contains x = true ↔ x ∈ l := by simp
theorem bounds_l1 {w s k : List Int} {fl : Nat} (hf : w.length ≤ 30) (hsl : s.length ≤ 30) (hkl : k.length ≤ 30) (h : ∀ i, i < w.length → k.contains (w.getD i 0) = (if i = fl then true else if i = w.length - 1 then true else if fl < i then s.contains (w.getD i 0) else false)) :
    ∀ d (i : Nat), w.length - i = d → i ≤ w.length → Ev (fun q => epitomelaw18_KeepBounds.l1 q w s k fl i) true := by
  intro d
  induction d with
  | zero =>
    intro i hd hi
    exact Ev.step (fun k => by rw [epitomelaw18_KeepBounds.l1]) (ev_if_neg (by omega) (Ev.now _))
  | succ d ih =>
    intro i hd hi
    have hh := h i (by omega)
    have next := ih (i + 1) (by omega) (by omega)
    refine Ev.step (fun k => by rw [epitomelaw18_KeepBounds.l1]) (ev_if_pos (by omega) (ev_if_pos (by omega) ?_))
    rw [rd_nat, w64 (x := (i : Int) + 1) (by omega) (by omega), w64 (x := (w.length : Int) - 1) (by omega) (by omega)]
    refine Ev.bind (law_in k (by unfold maxLen; omega) _) ?_
    rw [hh]
    rw [show ((i + 1 : Nat) : Int) = (i : Int) + 1 by omega] at next
    by_cases c1 : i = fl
    · refine ev_if_pos (by omega) (ev_if_neg (by simp [c1]) next)
    · refine ev_if_neg (by omega) ?_
      by_cases c2 : i = w.length - 1
      · refine ev_if_pos (by omega) (ev_if_neg (by simp [c2]) next)
      · refine ev_if_neg (by omega) ?_
        by_cases c3 : fl < i
        · refine ev_if_pos (by omega) (Ev.bind (law_in s (by unfold maxLen; omega) _) (ev_if_neg (by rw [if_neg c1, if_neg c2, if_pos c3]; simp) next))
        · refine ev_if_neg (by omega) (ev_if_neg (by rw [if_neg c1, if_neg c2, if_neg c3]; simp) next)
theorem bounds_l0 {w s k : List Int} {fl : Nat} (hsl : s.length ≤ 30) (hkl : k.length ≤ 30) (hk : Rising k) (h : ∀ i, 0 < i → i + 1 < k.length → s.contains (k.getD i 0) = true) (next : Ev (fun q => epitomelaw18_KeepBounds.l1 q w s k fl 0) true) :
    ∀ d (i : Nat), k.length - i = d → 1 ≤ i → i ≤ k.length → Ev (fun q => epitomelaw18_KeepBounds.l0 q w s k fl i) true := by
  intro d
  induction d with
  | zero =>
    intro i hd h1 hi
    exact Ev.step (fun k => by rw [epitomelaw18_KeepBounds.l0]) (ev_if_neg (by omega) next)
  | succ d ih =>
    intro i hd h1 hi
    have nx := ih (i + 1) (by omega) (by omega) (by omega)
    rw [show ((i + 1 : Nat) : Int) = (i : Int) + 1 by omega] at nx
    refine Ev.step (fun k => by rw [epitomelaw18_KeepBounds.l0]) (ev_if_pos (by omega) ?_)
    rw [rd_nat, w64 (x := (i : Int) + 1) (by omega) (by omega), w64 (x := (i : Int) - 1) (by omega) (by omega), w64 (x := (k.length : Int) - 1) (by omega) (by omega), rd_of (show (i : Int) - 1 = ((i - 1 : Nat) : Int) by omega)]
    have hlt := hk (i - 1) i (by omega) (by omega)
    refine ev_if_pos (by omega) (ev_if_pos (by omega) (ev_if_pos (by omega) (ev_if_neg (by omega) ?_)))
    by_cases c : (i : Int) < (k.length : Int) - 1
    · refine ev_if_pos c (Ev.bind (law_in s (by unfold maxLen; omega) _) ?_)
      rw [h i (by omega) (by omega)]
      exact ev_if_pos rfl nx
    · exact ev_if_neg c nx
theorem Pure.KeepBounds : epitomelaw18_KeepBounds.Pure := by
  intro l0 l1 f h0 h1 _
  obtain ⟨w, hw, hr⟩ := fit_row l0 h0
  have hf := hr.few
  have hp := hr.pos
  have ht := take_wf2 h1 30
  have htl : (l1.take 30).length ≤ 30 := List.length_take_le _ _
  obtain ⟨s, hs⟩ : ∃ s, l1.take 30 = s := ⟨_, rfl⟩
  rw [hs] at ht htl
  have hsi := all_isInt ht.2
  have hlt := floorOf_lt w f hp
  have hle := above_le f w
  apply Ev.rounds
  unfold epitomelaw18_KeepBounds.f
  refine Ev.bind shown18 (Ev.bind hw (ev_some ((few18 l1).trans (by rw [hs])) (ev_some (keepOf_is f hp (by omega) (show s.length < 17592186044416 by omega) hr.ints hsi) (Ev.bind (keepFloor_ev w f (by unfold maxLen; omega)) (ev_if_pos rfl ?_)))))
  have dp : 0 < (w.drop (floorOf w f)).length := by rw [List.length_drop]; omega
  have dl : (w.drop (floorOf w f)).length ≤ 30 := by rw [List.length_drop]; omega
  have dr := rising_drop hr.rises (floorOf w f)
  obtain ⟨k, hk⟩ : ∃ k, keptOf (w.drop (floorOf w f)) s = k := ⟨_, rfl⟩
  obtain ⟨e1, e2, e3⟩ := kept_ends dp s
  have kr := rising_pairwise.2 (kept_rising (rising_pairwise.1 dr) s)
  have kl : k.length ≤ 30 := by rw [← hk]; exact Nat.le_trans (List.length_filter_le _ _) dl
  have hfirst : (w.drop (floorOf w f)).getD 0 0 = w.getD (floorOf w f) 0 := by rw [getD_drop, Nat.add_zero]
  have hlast : (w.drop (floorOf w f)).getD ((w.drop (floorOf w f)).length - 1) 0 = w.getD (w.length - 1) 0 := by
    rw [getD_drop, List.length_drop]
    congr 1
    omega
  have hmem : ∀ x, x ∈ k ↔ x ∈ w.drop (floorOf w f) ∧ (x = w.getD (floorOf w f) 0 ∨ x = w.getD (w.length - 1) 0 ∨ x ∈ s) := fun x => by
    rw [← hk, kept_mem, rd_of (show (0 : Int) = ((0 : Nat) : Int) by rfl), rd_last dp, hfirst, hlast]
  rw [hk] at e1 e2 e3 kr ⊢
  rw [hfirst] at e2
  rw [hlast] at e3
  -- the two loops
  have mid : ∀ i, 0 < i → i + 1 < k.length → s.contains (k.getD i 0) = true := by
    intro i hi hi2
    rw [contains_iff]
    have hm := (hmem (k.getD i 0)).1 (mem_getD.2 ⟨i, by omega, rfl⟩)
    rcases hm.2 with c | c | c
    · rw [← e2] at c; have := rising_inj kr (by omega) (by omega) c; omega
    · rw [← e3] at c; have := rising_inj kr (by omega) (by omega) c; omega
    · exact c
  have each : ∀ i, i < w.length → k.contains (w.getD i 0) = (if i = floorOf w f then true else if i = w.length - 1 then true else if floorOf w f < i then s.contains (w.getD i 0) else false) := by
    intro i hi
    have hin : floorOf w f ≤ i → w.getD i 0 ∈ w.drop (floorOf w f) := fun h => mem_getD.2 ⟨i - floorOf w f, by rw [List.length_drop]; omega, by rw [getD_drop]; congr 1; omega⟩
    have hback : w.getD i 0 ∈ w.drop (floorOf w f) → floorOf w f ≤ i := fun h => by
      obtain ⟨j, hj, hje⟩ := mem_getD.1 h
      rw [getD_drop] at hje
      rw [List.length_drop] at hj
      have := rising_inj hr.rises (by omega) hi hje
      omega
    rw [Bool.eq_iff_iff, contains_iff, hmem]
    by_cases c1 : i = floorOf w f
    · rw [if_pos c1]
      exact ⟨fun _ => rfl, fun _ => ⟨hin (by omega), .inl (by rw [c1])⟩⟩
    · rw [if_neg c1]
      by_cases c2 : i = w.length - 1
      · rw [if_pos c2]
        exact ⟨fun _ => rfl, fun _ => ⟨hin (by omega), .inr (.inl (by rw [c2]))⟩⟩
      · rw [if_neg c2]
        by_cases c3 : floorOf w f < i
        · rw [if_pos c3, contains_iff]
          constructor
          · rintro ⟨_, h | h | h⟩
            · exact absurd (rising_inj hr.rises hi hlt h) c1
            · exact absurd (rising_inj hr.rises hi (by omega) h) c2
            · exact h
          · exact fun h => ⟨hin (by omega), .inr (.inr h)⟩
        · rw [if_neg c3]
          constructor
          · rintro ⟨h, _⟩
            have := hback h
            omega
          · intro h; cases h
  have loops : Ev (fun q => epitomelaw18_KeepBounds.j0 q w s k (floorOf w f) false) true :=
    Ev.step (fun k => by rw [epitomelaw18_KeepBounds.j0]) (ev_if_neg (by simp) (by
      have := bounds_l0 htl kl kr mid (bounds_l1 hf htl kl each w.length 0 (by omega) (by omega)) (k.length - 1) 1 rfl (Nat.le_refl _) (by omega)
      simpa using this))
  refine ev_if_neg (by omega) (ev_if_neg (by omega) (ev_if_neg (by omega) (ev_if_pos (by omega) (ev_if_pos (by omega) (ev_if_pos (by omega) ?_)))))
  rw [w64 (x := (k.length : Int) - 1) (by omega) (by omega), w64 (x := (w.length : Int) - 1) (by omega) (by omega), w64 (x := (floorOf w f : Int) + 1) (by omega) (by omega), rd_nat w (floorOf w f), rd_of (show (0 : Int) = ((0 : Nat) : Int) by rfl), rd_last e1, rd_last hp, rd_of (show (floorOf w f : Int) + 1 = ((floorOf w f + 1 : Nat) : Int) by omega)]
  refine ev_if_pos e2 (ev_if_pos (by omega) (ev_if_pos (by omega) (ev_if_pos (by omega) (ev_if_pos (by omega) (ev_if_pos e3 ?_)))))
  have tail : Ev (fun q => if (floorOf w f : Int) + 1 < (w.length : Int) then (if 0 ≤ (floorOf w f : Int) + 1 then (epitomelaw18_KeepBounds.j0 q w s k (floorOf w f) (decide (w.getD (floorOf w f + 1) 0 ≤ f))) else none) else epitomelaw18_KeepBounds.j0 q w s k (floorOf w f) false) true := by
    by_cases c : (floorOf w f : Int) + 1 < w.length
    · refine ev_if_pos c (ev_if_pos (by omega) ?_)
      rw [decide_eq_false]
      · exact loops
      · intro h
        have := (above_iff hr.rises f (floorOf w f + 1) (by omega)).1 h
        unfold floorOf at this
        omega
    · exact ev_if_neg c loops
  by_cases c : (floorOf w f : Int) > 0
  · refine ev_if_pos c (ev_if_neg ?_ tail)
    have := (above_iff hr.rises f (floorOf w f) hlt).2 (by unfold floorOf at c ⊢; omega)
    omega
  · exact ev_if_neg c tail
end Go.Proofs.Ytilbackjamjonaa.F
end
section
namespace Go.Proofs.Ytilbackjamjonaa.keepBounds
open Go.ChangeShapes Go.WideShapes Go.ChangeAt Go.RowKit Go.Proofs.Ytilbackjamjonaa.F
open Go.Proofs.YtilbackjamjonaaW.PrintWords
open Go.ChangeMaps (open_string shut_string)
set_option linter.unusedVariables false
theorem own : ownKnob Try.prog.godebug = none := by kernel_rfl
theorem laidOut : laidOutB Try.prog = true := by kernel_rfl
set_option maxRecDepth 100000 in
theorem lifted (os : Os) (started : os.Started) (H : Type) (enc : TypeId × Value → H) :
    ReturnsInHanded {} Try.checked os 3 .any (Rows.keepBoundsSpec.pre6 enc Try.prog Try.f3 Rows.keepBoundsRow.domain false) (Rows.keepBoundsSpec.post enc Try.prog Try.f3 false true false false) := by
  refine returnsInHanded_of_change_sized (C := Try.checked) own started (by kernel_rfl) Try.func3
    (ChangeSpec.witness6 (enc := enc) (C := Try.checked) false ⟨#[], #[.slice none 0 0, .slice none 0 0, .int .i64 0], []⟩ 8 (by kernel_rfl) (by kernel_rfl) (by kernel_rfl) (by kernel_rfl)) ?_
  intro W base args ds gs before hval0 hW hcnd hsz0 _
  have hval : ∀ (j : Nat) t v, Try.f3.params[j]? = some t → args[j]? = some v → Value.okWide Try.prog W .any base t v := hval0
  have hW' := hW
  obtain ⟨p, q, hA0, hV, rfl, hfz, hnd⟩ := hW
  have hA : DataW.TrodAll enc Try.prog W 0 (fun _ => true) true Try.f3.params.toList args.toList ds p := hA0
  rw [Try.params3] at hA hval
  obtain ⟨v0, vs0, d0, ds0, p0, q0, hargs, rfl, rfl, h0, r0⟩ := trodAll_cons hA
  obtain ⟨v1, vs1, d1, ds1, p1, q1, rfl, rfl, rfl, h1, r1⟩ := trodAll_cons r0
  obtain ⟨v2, vs2, d2, ds2, p2, q2, rfl, rfl, rfl, h2, r2⟩ := trodAll_cons r1
  obtain ⟨rfl, rfl, rfl⟩ := trodAll_nil r2
  obtain rfl : args = #[v0, v1, v2] := by cases args; simp_all
  obtain ⟨rfl, rfl⟩ := trodVars_none hV
  obtain ⟨A0, n0, c0, rfl⟩ := okWide_slice Try.underlying22 (hval 0 22 v0 rfl rfl)
  have k0 := h0
  have lt0 : ∀ x ∈ p0, x.block < W.heap.size := by obtain ⟨m, hm⟩ := k0; exact DataW.trod_lt m _ _ _ hm
  obtain ⟨l0, z0, hv0⟩ : ∃ l, (Kd.slice 3 (Kd.int .i64)).K W l [Value.slice A0 n0 c0] ∧ (fun v_ => (v_.length ≤ maxLen ∧ ∀ x_ ∈ v_, (Lit.int .i64 x_).wf = true)) l := by
    obtain ⟨fuel, hf⟩ := h0
    exact (opens_slice Try.underlying22 (by kernel_rfl) (opens_int Try.underlying3)) enc W _ _ _ _ _ _ hf
  obtain ⟨A_, c_, e, hc0, hr0⟩ := z0
  simp only [List.cons.injEq, Value.slice.injEq, and_true] at e
  obtain ⟨rfl, rfl, rfl⟩ := e
  obtain ⟨A1, n1, c1, rfl⟩ := okWide_slice Try.underlying22 (hval 1 22 v1 rfl rfl)
  have k1 := h1
  have lt1 : ∀ x ∈ p1, x.block < W.heap.size := by obtain ⟨m, hm⟩ := k1; exact DataW.trod_lt m _ _ _ hm
  obtain ⟨l1, z1, hv1⟩ : ∃ l, (Kd.slice 3 (Kd.int .i64)).K W l [Value.slice A1 n1 c1] ∧ (fun v_ => (v_.length ≤ maxLen ∧ ∀ x_ ∈ v_, (Lit.int .i64 x_).wf = true)) l := by
    obtain ⟨fuel, hf⟩ := h1
    exact (opens_slice Try.underlying22 (by kernel_rfl) (opens_int Try.underlying3)) enc W _ _ _ _ _ _ hf
  obtain ⟨A_, c_, e, hc1, hr1⟩ := z1
  simp only [List.cons.injEq, Value.slice.injEq, and_true] at e
  obtain ⟨rfl, rfl, rfl⟩ := e
  obtain ⟨a2, rfl, rfl, rfl, hv2⟩ := open_int Try.underlying3 (hval 2 3 v2 rfl rfl) h2
  obtain ⟨k, h⟩ := Pure.KeepBounds l0 l1 a2 hv0 hv1 hv2
  refine (epitomelaw18_KeepBounds.calls k _ _ l0 _ _ l1 a2 true ⟨rfl⟩ W hr0 hc0 hr1 hc1 h).mono ?_
  rintro e W' ⟨rfl, hd⟩
  have bel : Below W.heap.size W W' := hd
  exact ⟨_, rfl, _, _, _, [], _, [], hW', trodAll_mk1 (shut_bool Try.underlying4 _), (trodAll_cons_mk (Below.trod laidOut (by kernel_rfl) (of_decide_eq_true (by kernel_rfl)) k0 bel lt0) (trodAll_cons_mk (Below.trod laidOut (by kernel_rfl) (of_decide_eq_true (by kernel_rfl)) k1 bel lt1) (trodAll_cons_mk (shut_int Try.underlying3 hv2) trodAll_mk0))), rfl, bel.frame _, fun h => by cases h⟩
theorem over : Rows.keepBoundsRow.holds Try.pinned (OpenSpec.ofChange Rows.keepBoundsSpec) :=
  OpenClaim.holds_of_wide 3 Try.f3 rfl rfl rfl rfl rfl rfl rfl ⟨rfl, rfl, rfl, rfl, rfl⟩ rfl rfl rfl rfl rfl (by kernel_rfl) Try.func3 (by kernel_rfl)
    (of_decide_eq_true (by kernel_rfl)) (by unfold Func.isWrapper; first | (rw [if_pos (by decide +kernel)]; kernel_rfl) | (rw [if_neg (by decide +kernel)]; exact ⟨rfl, rfl⟩))
    (fun os started H enc _ => lifted os started H enc)
theorem proved : Rows.KeepBoundsSaid := over
end Go.Proofs.Ytilbackjamjonaa.keepBounds
namespace Go.Proofs.Ytilbackjamjonaa
theorem keepBounds_holds : Rows.KeepBoundsSaid := keepBounds.proved
#print axioms keepBounds_holds
end Go.Proofs.Ytilbackjamjonaa
end
