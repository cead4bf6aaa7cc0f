import Derived.Test.YthhgobiaecehbaaDoorKCThroughMeetsE
import Derived.Test.YthhgobiaecehbaaDoorKCThroughMeetsPA
import Derived.Below
import Derived.Deep.Draws
import Derived.Deep.AppendLies
import Derived.Maps.AppendAt
import Derived.OwnWalk
import Derived.Laws.BytesArg
import Derived.Laws.MakeOwn
import Derived.Laws.OwnMore
import Derived.Deep.OwnRows
import Derived.Tactics
import Derived.Lib.ConvBytes
import Derived.Laws.Slices
import Derived.WalkKit
import Derived.KernelRfl
import Derived.RowKit3
import Derived.Deep.LoopGhost
import Derived.Deep.QuietTactic
import Derived.BigQuiet
import Derived.WideLaws
import Derived.Deep.DeepCutAuto
import Derived.Deep.CutBlock
import Derived.Deep.RegionHeld3
import Derived.Laws.Rows
import Derived.Lib.AppendStr
import Derived.ArgAppend
import Derived.Laws.IdiomCopy
import Derived.RowKit
import Derived.OrdersHeld
import Derived.Laws.BitsLemmas
import Derived.Laws.StructEq
import Derived.Test.YthhgobiaecehbaaDoorProg
import Derived.Handy
import Derived.Shelf.Unicode.DecodeSlow
import Derived.Ground.NamesProg
import Derived.Shelf.Unicode.ValidAny
import Derived.Laws.IdiomStrings
import Derived.Laws.Cover4
import Derived.Laws.RangeString
import Derived.Laws.RangeAny
import Derived.Lib.RuneCount
import Derived.Great.BuildSlice
import Derived.Defers
import Derived.Laws.EntriesVeiled
import Derived.ProofKit
import Derived.OpenShut
import Derived.ShutString
import Derived.ChangeOld
import Derived.SizedLaws
import Derived.Lib.ValidLaws
import Derived.Test.YthhgobiaecehbaaDoorRows
import Derived.Lib.LaidU8T
import Derived.Lib.LaidIn
import Derived.LaidLaws
import Derived.Test.YthhgobiaecehbaaDoorTie
import Derived.Test.YthhgobiaecehbaaDoorCards
import Derived.Carry
import Derived.ChangeSame
import Derived.ChangeVars
import Derived.JoinedOf
import Derived.SevenTiedAt
section
namespace Go.Proofs.YthhgobiaecehbaaDoor.F
open Go.RowKit Go.Proofs.YthhgobiaecehbaaDoorW.PrintWords Go.Proofs.YthhgobiaecehbaaDoorW.PrintLast Go.Proofs.YthhgobiaecehbaaDoorW.PrintMore
attribute [local go_sem] max2_int min2_int max_two min_two max_three min_three max_four min_four cell_setCell_isSome
set_option linter.unusedVariables false
set_option linter.unusedSimpArgs false
def epitomelaw13_ThroughMeets.Pure : Prop := ∀ (a0 : ByteArray) (l1 : List (S41)) (l2 : List (List (S41))), a0.size ≤ maxLen → (l1.length ≤ maxLen ∧ ∀ x_ ∈ l1, V41 x_) → (l2.length ≤ maxLen ∧ ∀ x_ ∈ l2, (x_.length ≤ maxLen ∧ ∀ x_x_ ∈ x_, V41 x_x_)) → ∃ k, epitomelaw13_ThroughMeets.f k a0 l1 l2 = some true
end Go.Proofs.YthhgobiaecehbaaDoor.F
end
section
namespace Go.Proofs.YthhgobiaecehbaaDoor.F
open Go.RowKit Go.Proofs.YthhgobiaecehbaaDoorW.PrintWords Go.Proofs.YthhgobiaecehbaaDoorW.PrintLast Go.Proofs.YthhgobiaecehbaaDoorW.PrintMore
set_option linter.unusedVariables false
set_option linter.unusedSimpArgs false
theorem appOk_snoc : ∀ (w : List (List Un)) (us : List Un) (t : List Int), AppOk t w → Ok us → (us.map Un.cin).sum = (apps t w).length → Runes (app (exU us) (apps t w)) → AppOk t (w ++ [us])
  | [], us, t, _, h1, h2, h3 => ⟨h1, h2, h3, trivial⟩
  | vs :: w, us, t, ⟨a1, a2, a3, a4⟩, h1, h2, h3 => ⟨a1, a2, a3, appOk_snoc w us _ a4 h1 h2 h3⟩
theorem Pure.ThroughMeets : epitomelaw13_ThroughMeets.Pure := by
  intro a0 l1 l2 h0 h1 h2
  apply Ev.rounds
  have hmn := mn_le (a0.size : Int) 20
  have hex := extract_size a0 (mn (a0.size : Int) 20).toNat
  have hf := fit01_is (a0.extract 0 (mn (a0.size : Int) 20).toNat) (by omega)
  obtain ⟨t, ht⟩ : ∃ t, fitRunes (a0.extract 0 (mn (a0.size : Int) 20).toNat) = t := ⟨_, rfl⟩
  have tl : t.length ≤ 20 := by rw [← ht, fitRunes_length]; omega
  have tr : Runes t := fun r hr => alpha_rune r (fitRunes_mem _ r (by rw [ht]; exact hr))
  rw [ht] at hf
  obtain ⟨us, hf0, f0⟩ := fitB l1 h1.1 h1.2 t.length (by omega)
  obtain ⟨w, hcw, hc, hwl⟩ := chain_is l2 h2.1 h2.2 t.length (by omega)
  have c0 := f0.cout
  have i0 := f0.cinU
  have o0 := f0.coutU
  have n0 := f0.cin
  have p0 := puts_le (exU us)
  have wle := endN_le w _ hc
  have gW := chainG_of w _ hc (by omega)
  have bW := chainOk_cout w _ hc
  obtain ⟨eF, rF, iF, oF, bF⟩ := fuseG_is gW (by omega)
  have eW := throughOf_is f0.ok (by omega) (by rw [n0]; exact gW) (fun v hv => by have := bW v hv; omega)
  have eP := throughPatch_is f0.ok (by omega) (by rw [n0]; exact gW)
  rw [n0] at eP
  have ovF := overs_fuse w (exU us) (List.replicate t.length .k) (by rw [keeps_in, i0]) (by rw [keeps_out]; exact hc)
  rw [show List.replicate t.length U.k = List.replicate (cinU (exU us)) .k by rw [i0], over_keep_right, show List.replicate (cinU (exU us)) U.k = List.replicate t.length .k by rw [i0]] at ovF
  have aF := fuse_app w (List.replicate t.length .k) t (by rw [keeps_in]) (by rw [keeps_out]; exact hc)
  have ak : app (List.replicate t.length .k) t = t := by have := app_keep t.length [] t (Nat.le_refl _); simpa [app] using this
  rw [ak] at aF
  generalize hF : fuseU (List.replicate t.length .k) (exR w) = F at *
  have hcc : cinU (exU us) = cinU F := by omega
  have pF := puts_le F
  have oB := overOk f0.runes hcc (by omega) (by omega)
  have oA := underOk rF hcc.symm (by omega) (by omega)
  rw [← ovF] at eW
  have bm := both_meet (exU us) F t hcc i0
  have lu := app_length (exU us) t i0
  have ru := app_runes (exU us) t f0.runes tr
  have la := apps_length w t hc
  have ra := apps_runes w t t.length tr hc
  have rB := app_runes (overU (exU us) F) _ (over_runes _ _ f0.runes) ra
  have rA := app_runes (underU F (exU us)) _ (under_runes _ _ rF) ru
  have bi := canon_in (overU (exU us) F)
  have ai := canon_in (underU F (exU us))
  have s1 := over_sizes (exU us) F hcc
  have s2 := under_sizes F (exU us) hcc.symm
  have aQ := applyAll_is (w := [us, canon (underU F (exU us))]) (by simp) tr (by omega) ⟨f0.ok, n0, ru, oA, by omega, by rw [ex_canon]; exact rA, trivial⟩
  have aW := chain_appOk w t tr hc
  have aP := applyAll_is (w := w ++ [canon (overU (exU us) F)]) (by simp; omega) tr (by omega) (appOk_snoc w _ t aW oB (by omega) (by rw [ex_canon]; exact rB))
  rw [apps_append] at aP
  simp only [apps, ex_canon] at aP aQ
  rw [← bm, aF] at aQ
  have er : rowsS (w ++ [canon (overU (exU us) F)]) = [] ++ rowsS w ++ [(canon (overU (exU us) F)).map Un.sp] := by simp [rowsS]
  rw [er] at aP
  have lw := rowsS_length w
  unfold epitomelaw13_ThroughMeets.f
  refine Ev.bind shown13 (ev_if_pos (by omega) (ev_if_pos (by omega) (Ev.bind hf (ev_some (count_enc t tr (by omega)) (Ev.bind hf0 (Ev.bind hcw (Ev.bind eW (Ev.bind eP ?_))))))))
  refine Ev.bind aQ (ev_some rfl (ev_if_pos (by simp only [List.length_nil]; omega) (ev_some rfl (ev_if_pos (by simp only [List.nil_append]; omega) (Ev.bind aP ?_)))))
  refine ev_if_pos rfl (ev_if_pos rfl (ev_if_pos rfl (ev_if_pos rfl (ev_if_pos rfl ?_))))
  rw [beq_self_eq_true]
  exact Ev.now true
end Go.Proofs.YthhgobiaecehbaaDoor.F
end
section
namespace Go.Proofs.YthhgobiaecehbaaDoor.throughMeets
open Go.ChangeShapes Go.WideShapes Go.ChangeAt Go.RowKit Go.Proofs.YthhgobiaecehbaaDoor.F
open Go.Proofs.YthhgobiaecehbaaDoorW.PrintWords
open Go.ChangeMaps (open_string shut_string)
set_option linter.unusedVariables false
theorem own : ownKnob Tryd.prog.godebug = none := by kernel_rfl
theorem laidOut : laidOutB Tryd.prog = true := by kernel_rfl
theorem laid_met (os : Os) (args : Array Value) : laidMetH Tryd.prog Rows.throughMeetsRow.laid ((laidWorld os).forCall (fun _ _ => 0) ⟨#[], args, []⟩).memory :=
  (LaidIn.of_run (l := Rows.throughMeetsRow.laid) [2, 0, 1] 8 (by kernel_rfl) (by kernel_rfl) (by kernel_rfl) (by kernel_rfl)).met
set_option maxRecDepth 100000 in
theorem lifted (os : Os) (started : os.Started) (H : Type) (enc : TypeId × Value → H) :
    ReturnsInHanded {} Tryd.checked os 13 .any (fun w args => (Rows.throughMeetsSpec.pre enc Tryd.prog Tryd.f13 [] false w args ∧ laidMetH Tryd.prog Rows.throughMeetsRow.laid w) ∧ sizedMet enc Tryd.prog Tryd.f13 (OpenSpec.ofChange Rows.throughMeetsSpec) false w args) (Rows.throughMeetsSpec.post enc Tryd.prog Tryd.f13 false true false false) := by
  refine returnsInHanded_of_change_and (C := Tryd.checked) (X := (fun w _ => laidMetH Tryd.prog Rows.throughMeetsRow.laid w)) (fun _ _ _ hh h => h.of_heap hh) own started (by kernel_rfl) Tryd.func13
    (ChangeSpec.witness_at (enc := enc) (C := Tryd.checked) (os := os) (X := (fun w _ => laidMetH Tryd.prog Rows.throughMeetsRow.laid w)) false (laidWorld os) #[.string ByteArray.empty, .slice none 0 0, .slice none 0 0] 8 rfl (by kernel_rfl) (by kernel_rfl) (by kernel_rfl) (by kernel_rfl) (by kernel_rfl) (laid_met os _)) ?_
  intro W base args ds gs before hval0 hW _ _ hL _
  have hG : Glob W := glob_of_reads (Lib.laidMet.reads hL (.tail _ (.tail _ (.head _)))) (Lib.laidMet.reads hL (.head _)) (Lib.laidMet.reads hL (.tail _ (.head _)))
  have hval : ∀ (j : Nat) t v, Tryd.f13.params[j]? = some t → args[j]? = some v → Value.okWide Tryd.prog W .any base t v := hval0
  have hW' := hW
  obtain ⟨p, q, hA0, hV, rfl, hfz, hnd⟩ := hW
  have hA : DataW.TrodAll enc Tryd.prog W 0 (fun _ => true) true Tryd.f13.params.toList args.toList ds p := hA0
  rw [Tryd.params13] at hA hval
  obtain ⟨v0, vs0, d0, ds0, p0, q0, hargs, rfl, rfl, h0, r0⟩ := trodAll_cons hA
  obtain ⟨v1, vs1, d1, ds1, p1, q1, rfl, rfl, rfl, h1, r1⟩ := trodAll_cons r0
  obtain ⟨v2, vs2, d2, ds2, p2, q2, rfl, rfl, rfl, h2, r2⟩ := trodAll_cons r1
  obtain ⟨rfl, rfl, rfl⟩ := trodAll_nil r2
  obtain rfl : args = #[v0, v1, v2] := by cases args; simp_all
  obtain ⟨rfl, rfl⟩ := trodVars_none hV
  obtain ⟨a0, rfl, rfl, rfl, hv0⟩ := open_string Tryd.underlying9 (hval 0 9 v0 rfl rfl) h0
  obtain ⟨A1, n1, c1, rfl⟩ := okWide_slice Tryd.underlying24 (hval 1 24 v1 rfl rfl)
  have k1 := h1
  have lt1 : ∀ x ∈ p1, x.block < W.heap.size := by obtain ⟨m, hm⟩ := k1; exact DataW.trod_lt m _ _ _ hm
  obtain ⟨l1, z1, hv1⟩ : ∃ l, (Kd.slice 41 k41).K W l [Value.slice A1 n1 c1] ∧ (fun v_ => (v_.length ≤ maxLen ∧ ∀ x_ ∈ v_, V41 x_)) l := by
    obtain ⟨fuel, hf⟩ := h1
    exact (opens_slice Tryd.underlying24 (by kernel_rfl) opens41) enc W _ _ _ _ _ _ hf
  obtain ⟨A_, c_, e, hc1, hr1⟩ := z1
  simp only [List.cons.injEq, Value.slice.injEq, and_true] at e
  obtain ⟨rfl, rfl, rfl⟩ := e
  obtain ⟨A2, n2, c2, rfl⟩ := okWide_slice Tryd.underlying22 (hval 2 22 v2 rfl rfl)
  have k2 := h2
  have lt2 : ∀ x ∈ p2, x.block < W.heap.size := by obtain ⟨m, hm⟩ := k2; exact DataW.trod_lt m _ _ _ hm
  obtain ⟨l2, z2, hv2⟩ : ∃ l, (Kd.slice 24 (Kd.slice 41 k41)).K W l [Value.slice A2 n2 c2] ∧ (fun v_ => (v_.length ≤ maxLen ∧ ∀ x_ ∈ v_, (x_.length ≤ maxLen ∧ ∀ x_x_ ∈ x_, V41 x_x_))) l := by
    obtain ⟨fuel, hf⟩ := h2
    exact (opens_slice Tryd.underlying22 (by kernel_rfl) (opens_slice Tryd.underlying24 (by kernel_rfl) opens41)) enc W _ _ _ _ _ _ hf
  obtain ⟨A_, c_, e, hc2, hr2⟩ := z2
  simp only [List.cons.injEq, Value.slice.injEq, and_true] at e
  obtain ⟨rfl, rfl, rfl⟩ := e
  obtain ⟨k, h⟩ := Pure.ThroughMeets a0 l1 l2 hv0 hv1 hv2
  refine (epitomelaw13_ThroughMeets.calls k a0 _ _ l1 _ _ l2 true ⟨rfl⟩ W hG hr1 hc1 hr2 hc2 h).mono ?_
  rintro e W' ⟨rfl, hd⟩
  have bel : Below W.heap.size W W' := hd
  exact ⟨_, rfl, _, _, _, [], _, [], hW', trodAll_mk1 (shut_bool Tryd.underlying4 _), (trodAll_cons_mk (shut_string Tryd.underlying9 hv0) (trodAll_cons_mk (Below.trod laidOut (by kernel_rfl) (of_decide_eq_true (by kernel_rfl)) k1 bel lt1) (trodAll_cons_mk (Below.trod laidOut (by kernel_rfl) (of_decide_eq_true (by kernel_rfl)) k2 bel lt2) trodAll_mk0))), rfl, bel.frame _, fun h => by cases h⟩
theorem over : Rows.throughMeetsRow.holds Tryd.pinned (OpenSpec.ofChange Rows.throughMeetsSpec) :=
  OpenClaim.holds_of_wide 13 Tryd.f13 rfl rfl rfl rfl rfl rfl rfl ⟨rfl, rfl, rfl, rfl, rfl⟩ rfl rfl rfl rfl rfl (by kernel_rfl) Tryd.func13 (by kernel_rfl)
    (of_decide_eq_true (by kernel_rfl)) (by unfold Func.isWrapper; first | (rw [if_pos (by decide +kernel)]; kernel_rfl) | (rw [if_neg (by decide +kernel)]; exact ⟨rfl, rfl⟩))
    (fun os started H enc _ => lifted os started H enc)
theorem card : Claim7.holds Tryd.pinned (.plain (OpenSpec.ofChange Rows.throughMeetsSpec)) Rows.throughMeetsCard :=
  Claim7.holds_tied_plain_at .later [] [.data, .data, .pinned] true (true, "8fb316f5ff7554be16da48bf4668a02c6c874877236834196521f490ba2e0f73") false
    over (fun _ h => by cases h) (by kernel_rfl) (fun _ h => by cases h) throughMeets_row_tie rfl ⟨rfl, rfl⟩ (by kernel_rfl) rfl
    (fun f fn hf hfn => by
      obtain rfl : f = 13 := Option.some.inj ((show Tryd.prog.funcNamed "epitome/epitomelaw13.ThroughMeets" = some 13 by kernel_rfl).symm.trans hf) |>.symm
      obtain rfl : fn = Tryd.f13 := (Option.some.inj (Tryd.func13.symm.trans hfn)).symm
      exact ⟨by kernel_rfl, fun j t ht => by
        rw [Tryd.params13] at ht
        match j, ht with
        | 0, ht =>
          obtain rfl : t = 9 := by simpa using ht.symm
          exact (show Tryd.prog.wantsStandIn 9 = false by kernel_rfl)
        | 1, ht =>
          obtain rfl : t = 24 := by simpa using ht.symm
          exact (show Tryd.prog.wantsStandIn 24 = false by kernel_rfl)
        | 2, ht =>
          obtain rfl : t = 22 := by simpa using ht.symm
          exact (show Tryd.prog.wantsStandIn 22 = false by kernel_rfl)
        | j + 3, ht => simp at ht⟩)
    (by kernel_rfl)
theorem proved : Rows.ThroughMeetsCardSaid := card
end Go.Proofs.YthhgobiaecehbaaDoor.throughMeets
namespace Go.Proofs.YthhgobiaecehbaaDoor
theorem throughMeets_holds : Rows.ThroughMeetsCardSaid := throughMeets.proved
#print axioms throughMeets_holds
end Go.Proofs.YthhgobiaecehbaaDoor
end
