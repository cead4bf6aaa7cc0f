import Derived.Test.YtphbemkdhneklaaDoorKPlaceLeastA
import Derived.Test.YtphbemkdhneklaaDoorKPPA
import Derived.Below
import Derived.Deep.Draws
import Derived.Deep.AppendLies
import Derived.Maps.AppendAt
import Derived.OwnWalk
import Derived.Laws.BytesArg
import Derived.Laws.MakeOwn
import Derived.Laws.OwnMore
import Derived.Deep.OwnRows
import Derived.Tactics
import Derived.Lib.ConvBytes
import Derived.Laws.Slices
import Derived.WalkKit
import Derived.KernelRfl
import Derived.RowKit3
import Derived.Deep.LoopGhost
import Derived.Deep.QuietTactic
import Derived.BigQuiet
import Derived.WideLaws
import Derived.Deep.DeepCutAuto
import Derived.Deep.CutBlock
import Derived.Deep.RegionHeld3
import Derived.Laws.Rows
import Derived.Lib.AppendStr
import Derived.ArgAppend
import Derived.Laws.IdiomCopy
import Derived.RowKit
import Derived.OrdersHeld
import Derived.Laws.BitsLemmas
import Derived.Laws.StructEq
import Derived.Test.YtphbemkdhneklaaDoorProg
import Derived.Handy
import Derived.Shelf.Unicode.DecodeSlow
import Derived.Ground.NamesProg
import Derived.Shelf.Unicode.ValidAny
import Derived.Laws.RangeString
import Derived.Laws.RangeAny
import Derived.Lib.RuneCount
import Derived.RangeFuncNested
import Derived.RangeFuncBound
import Derived.RangeFuncCalls
import Derived.RangeFuncLeaves
import Derived.Shelf.Abstract
import Derived.Shelf.RegionOpen
import Derived.OwnWalkIn
import Derived.TacticsInMore
import Derived.LoopNIn
import Derived.LoopIn
import Derived.Laws.IdiomStrings
import Derived.Laws.Cover4
import Derived.ProofKit
import Derived.OpenShut
import Derived.ShutString
import Derived.ChangeOld
import Derived.SizedLaws
import Derived.Lib.ValidLaws
import Derived.Test.YtphbemkdhneklaaDoorRows
import Derived.Lib.LaidU8T
import Derived.Lib.LaidIn
import Derived.LaidLaws
import Derived.Test.YtphbemkdhneklaaDoorTie
import Derived.Test.YtphbemkdhneklaaDoorCards
import Derived.Carry
import Derived.ChangeSame
import Derived.ChangeVars
import Derived.JoinedOf
import Derived.SevenTiedAt
section
namespace Go.Proofs.YtphbemkdhneklaaDoor.F
open Go.RowKit Go.Proofs.YtphbemkdhneklaaDoorW.PrintWords Go.Proofs.YtphbemkdhneklaaDoorW.PrintLast Go.Proofs.YtphbemkdhneklaaDoorW.PrintMore
attribute [local go_sem] max2_int min2_int max_two min_two max_three min_three max_four min_four cell_setCell_isSome
set_option linter.unusedVariables false
set_option linter.unusedSimpArgs false
def epitomelaw08_PlaceLeast.Pure : Prop := ∀ (l0 : List (S51)) (a1 : Int), (l0.length ≤ maxLen ∧ ∀ x_ ∈ l0, V51 x_) → (Lit.int .u8 a1).wf = true → ∃ k, epitomelaw08_PlaceLeast.f k l0 a1 = some true
end Go.Proofs.YtphbemkdhneklaaDoor.F
end
section
namespace Go.Proofs.YtphbemkdhneklaaDoor.F
open Go.RowKit Go.Proofs.YtphbemkdhneklaaDoorW.PrintWords Go.Proofs.YtphbemkdhneklaaDoorW.PrintLast Go.Proofs.YtphbemkdhneklaaDoorW.PrintMore
set_option linter.unusedVariables false
set_option linter.unusedSimpArgs false
theorem placeLeast_l1 (us : List Un) (n : Nat) (fu : FitU us n) (hn : n ≤ 40) (t : Nat) (ht : t ≤ coutU (exU us)) (v : Bool)
    (hv : Ev (fun k => epitomelaw08_PlaceLeast.l0 k true (us.map Un.sp) ((t + 1 : Nat) : Int)) v) : ∀ (c g : Nat), g + c = n + 1 →
    Ev (fun k => epitomelaw08_PlaceLeast.l1 k true (us.map Un.sp) (t : Int) ((leastU (exU us) t : Nat) : Int) (g : Int)) v
  | 0, g, h => by
    have cu := fu.cin
    refine Ev.step (f := fun k => (op_In.f k (us.map Un.sp)).bind fun t114 => if (g : Int) ≤ t114 then _ else epitomelaw08_PlaceLeast.l0 k true (us.map Un.sp) (wrap64 ((t : Int) + 1))) (fun k => by rw [epitomelaw08_PlaceLeast.l1]) ?_
    refine Ev.bind (opIn_is fu.ok) (ev_if_neg (by omega) ?_)
    rw [w64_succ _ (by have := fu.coutU; omega)]
    exact hv
  | c + 1, g, h => by
    have cu := fu.cin
    have cu2 := fu.cinU
    have co := fu.coutU
    have ih := placeLeast_l1 us n fu hn t ht v hv c (g + 1) (by omega)
    have lw := least_where (exU us) g t (by omega) ht
    have hw : wrap64 ((g : Int) + 1) = ((g + 1 : Nat) : Int) := w64_succ _ (by omega)
    refine Ev.step (f := fun k => (op_In.f k (us.map Un.sp)).bind fun t114 => if (g : Int) ≤ t114 then ((place_Where.f k (us.map Un.sp) (g : Int)).bind fun bt115 => (if bt115.2 = 0 then (if ((decide (((leastU (exU us) t : Nat) : Int) ≤ (g : Int))) != (decide ((t : Int) ≤ bt115.1))) = true then (some false) else (epitomelaw08_PlaceLeast.l1 k true (us.map Un.sp) (t : Int) ((leastU (exU us) t : Nat) : Int) (wrap64 ((g : Int) + 1)))) else (some false))) else epitomelaw08_PlaceLeast.l0 k true (us.map Un.sp) (wrap64 ((t : Int) + 1))) (fun k => by rw [epitomelaw08_PlaceLeast.l1]) ?_
    refine Ev.bind (opIn_is fu.ok) (ev_if_pos (by omega) ?_)
    refine Ev.bind (placeWhere_is fu.ok g (by omega)) (ev_if_pos rfl ?_)
    refine ev_if_neg ?_ ?_
    · by_cases hc : leastU (exU us) t ≤ g
      · rw [decide_eq_true (by omega), decide_eq_true (by have := lw.1 hc; omega)]; decide
      · rw [decide_eq_false (by omega), decide_eq_false (by intro hh; exact hc (lw.2 (by omega)))]; decide
    · rw [hw]; exact ih
theorem placeLeast_l0 (us : List Un) (n : Nat) (fu : FitU us n) (hn : n ≤ 40) : ∀ (c t : Nat), t + c = coutU (exU us) + 1 →
    Ev (fun k => epitomelaw08_PlaceLeast.l0 k true (us.map Un.sp) (t : Int)) true := by
  have cu := fu.cin
  have cu2 := fu.cinU
  have co := fu.coutU
  have oe := coutU_ex us
  have fin : ∀ t : Nat, Ev (fun k => epitomelaw08_PlaceLeast.j1 k true (us.map Un.sp) (t : Int) false) true := by
    intro t
    refine Ev.step (f := fun k => (op_Out.f k (us.map Un.sp)).bind fun t106 => ((place_Least.f k (us.map Un.sp) (wrap64 (t106 + 1))).bind fun bt107 => ((place_Least.f k (us.map Un.sp) (-1)).bind fun bt109 => (if true = true then (if bt107.2 = 6 then (some (bt109.2 == 6)) else (some false)) else (some false))))) (fun k => by rw [epitomelaw08_PlaceLeast.j1, if_neg (by simp)]) ?_
    refine Ev.bind (opOut_is fu.ok) ?_
    rw [w64_succ _ (by omega)]
    refine Ev.bind (placeLeast_out fu.ok _ (.inr (by omega))) (Ev.bind (placeLeast_out fu.ok _ (.inl (by omega))) (ev_if_pos rfl (ev_if_pos rfl (Ev.now _))))
  intro c
  induction c with
  | zero =>
    intro t h
    refine Ev.step (f := fun k => (op_Out.f k (us.map Un.sp)).bind fun t105 => if (t : Int) ≤ t105 then epitomelaw08_PlaceLeast.j1 k true (us.map Un.sp) (t : Int) (decide ((t : Int) < 200)) else epitomelaw08_PlaceLeast.j1 k true (us.map Un.sp) (t : Int) false) (fun k => by rw [epitomelaw08_PlaceLeast.l0]) ?_
    exact Ev.bind (opOut_is fu.ok) (ev_if_neg (by omega) (fin t))
  | succ c ih =>
    intro t h
    refine Ev.step (f := fun k => (op_Out.f k (us.map Un.sp)).bind fun t105 => if (t : Int) ≤ t105 then epitomelaw08_PlaceLeast.j1 k true (us.map Un.sp) (t : Int) (decide ((t : Int) < 200)) else epitomelaw08_PlaceLeast.j1 k true (us.map Un.sp) (t : Int) false) (fun k => by rw [epitomelaw08_PlaceLeast.l0]) ?_
    refine Ev.bind (opOut_is fu.ok) (ev_if_pos (by omega) ?_)
    by_cases h2 : t < 200
    · rw [decide_eq_true (by omega)]
      have hl := least_le (exU us) t
      refine Ev.step (f := fun k => (place_Least.f k (us.map Un.sp) (t : Int)).bind fun bt111 => (if bt111.2 = 0 then (if bt111.1 < 0 then (epitomelaw08_PlaceLeast.j2 k true (us.map Un.sp) (t : Int) bt111.1 true) else ((op_In.f k (us.map Un.sp)).bind fun t113 => (epitomelaw08_PlaceLeast.j2 k true (us.map Un.sp) (t : Int) bt111.1 (decide (bt111.1 > t113))))) else (epitomelaw08_PlaceLeast.j2 k true (us.map Un.sp) (t : Int) bt111.1 true))) (fun k => by rw [epitomelaw08_PlaceLeast.j1, if_pos rfl]) ?_
      refine Ev.bind (placeLeast_is fu.ok t (by omega)) (ev_if_pos rfl (ev_if_neg (by omega) (Ev.bind (opIn_is fu.ok) ?_)))
      rw [decide_eq_false (by omega)]
      refine Ev.step (f := fun k => epitomelaw08_PlaceLeast.l1 k true (us.map Un.sp) (t : Int) ((leastU (exU us) t : Nat) : Int) 0) (fun k => by rw [epitomelaw08_PlaceLeast.j2, if_neg (by simp)]) ?_
      exact placeLeast_l1 us n fu hn t (by omega) true (ih (t + 1) (by omega)) (n + 1) 0 (by omega)
    · rw [decide_eq_false (by omega)]
      exact fin t
theorem rem41 (x : Int) (h : (Lit.int .u8 x).wf = true) : ∃ n : Nat, n ≤ 40 ∧ wrap64 (Int.tmod x 41) = (n : Int) := by
  have hb := wf_u8 h
  have h1 := Int.tmod_lt_of_pos x (show (0 : Int) < 41 by decide)
  have h2 := Int.tmod_nonneg 41 hb.1
  refine ⟨(Int.tmod x 41).toNat, by omega, ?_⟩
  rw [w64 (by omega) (by omega)]
  omega
theorem Pure.PlaceLeast : epitomelaw08_PlaceLeast.Pure := by
  intro l0 a1 h0 h1
  apply Ev.rounds
  obtain ⟨n, hn, en⟩ := rem41 a1 h1
  obtain ⟨us, hf, mu⟩ := fit04_is l0 h0.1 h0.2 n (by omega)
  have fu := made_fit mu (by omega)
  unfold epitomelaw08_PlaceLeast.f
  rw [en]
  refine Ev.bind shown08 (Ev.bind hf ?_)
  exact placeLeast_l0 us n fu hn (coutU (exU us) + 1) 0 (by omega)
end Go.Proofs.YtphbemkdhneklaaDoor.F
end
section
namespace Go.Proofs.YtphbemkdhneklaaDoor.placeLeast
open Go.ChangeShapes Go.WideShapes Go.ChangeAt Go.RowKit Go.Proofs.YtphbemkdhneklaaDoor.F
open Go.Proofs.YtphbemkdhneklaaDoorW.PrintWords
open Go.ChangeMaps (open_string shut_string)
set_option linter.unusedVariables false
theorem own : ownKnob Tryd.prog.godebug = none := by kernel_rfl
theorem laidOut : laidOutB Tryd.prog = true := by kernel_rfl
theorem laid_met (os : Os) (args : Array Value) : laidMetH Tryd.prog Rows.placeLeastRow.laid ((laidWorld os).forCall (fun _ _ => 0) ⟨#[], args, []⟩).memory :=
  (LaidIn.of_run (l := Rows.placeLeastRow.laid) [2, 0, 1] 8 (by kernel_rfl) (by kernel_rfl) (by kernel_rfl) (by kernel_rfl)).met
set_option maxRecDepth 100000 in
theorem lifted (os : Os) (started : os.Started) (H : Type) (enc : TypeId × Value → H) :
    ReturnsInHanded {} Tryd.checked os 5 .any (fun w args => (Rows.placeLeastSpec.pre enc Tryd.prog Tryd.f5 [] false w args ∧ laidMetH Tryd.prog Rows.placeLeastRow.laid w) ∧ sizedMet enc Tryd.prog Tryd.f5 (OpenSpec.ofChange Rows.placeLeastSpec) false w args) (Rows.placeLeastSpec.post enc Tryd.prog Tryd.f5 false true false false) := by
  refine returnsInHanded_of_change_and (C := Tryd.checked) (X := (fun w _ => laidMetH Tryd.prog Rows.placeLeastRow.laid w)) (fun _ _ _ hh h => h.of_heap hh) own started (by kernel_rfl) Tryd.func5
    (ChangeSpec.witness_at (enc := enc) (C := Tryd.checked) (os := os) (X := (fun w _ => laidMetH Tryd.prog Rows.placeLeastRow.laid w)) false (laidWorld os) #[.slice none 0 0, .int .u8 0] 8 rfl (by kernel_rfl) (by kernel_rfl) (by kernel_rfl) (by kernel_rfl) (by kernel_rfl) (laid_met os _)) ?_
  intro W base args ds gs before hval0 hW _ _ hL _
  have hG : Glob W := glob_of_reads (Lib.laidMet.reads hL (.tail _ (.tail _ (.head _)))) (Lib.laidMet.reads hL (.head _)) (Lib.laidMet.reads hL (.tail _ (.head _)))
  have hval : ∀ (j : Nat) t v, Tryd.f5.params[j]? = some t → args[j]? = some v → Value.okWide Tryd.prog W .any base t v := hval0
  have hW' := hW
  obtain ⟨p, q, hA0, hV, rfl, hfz, hnd⟩ := hW
  have hA : DataW.TrodAll enc Tryd.prog W 0 (fun _ => true) true Tryd.f5.params.toList args.toList ds p := hA0
  rw [Tryd.params5] at hA hval
  obtain ⟨v0, vs0, d0, ds0, p0, q0, hargs, rfl, rfl, h0, r0⟩ := trodAll_cons hA
  obtain ⟨v1, vs1, d1, ds1, p1, q1, rfl, rfl, rfl, h1, r1⟩ := trodAll_cons r0
  obtain ⟨rfl, rfl, rfl⟩ := trodAll_nil r1
  obtain rfl : args = #[v0, v1] := by cases args; simp_all
  obtain ⟨rfl, rfl⟩ := trodVars_none hV
  obtain ⟨A0, n0, c0, rfl⟩ := okWide_slice Tryd.underlying22 (hval 0 22 v0 rfl rfl)
  have k0 := h0
  have lt0 : ∀ x ∈ p0, x.block < W.heap.size := by obtain ⟨m, hm⟩ := k0; exact DataW.trod_lt m _ _ _ hm
  obtain ⟨l0, z0, hv0⟩ : ∃ l, (Kd.slice 51 k51).K W l [Value.slice A0 n0 c0] ∧ (fun v_ => (v_.length ≤ maxLen ∧ ∀ x_ ∈ v_, V51 x_)) l := by
    obtain ⟨fuel, hf⟩ := h0
    exact (opens_slice Tryd.underlying22 (by kernel_rfl) opens51) enc W _ _ _ _ _ _ hf
  obtain ⟨A_, c_, e, hc0, hr0⟩ := z0
  simp only [List.cons.injEq, Value.slice.injEq, and_true] at e
  obtain ⟨rfl, rfl, rfl⟩ := e
  obtain ⟨a1, rfl, rfl, rfl, hv1⟩ := open_int Tryd.underlying5 (hval 1 5 v1 rfl rfl) h1
  obtain ⟨k, h⟩ := Pure.PlaceLeast l0 a1 hv0 hv1
  refine (epitomelaw08_PlaceLeast.calls k _ _ l0 a1 true W hG hr0 hc0 h).mono ?_
  rintro e W' ⟨rfl, hd⟩
  have bel : Below W.heap.size W W' := hd
  exact ⟨_, rfl, _, _, _, [], _, [], hW', trodAll_mk1 (shut_bool Tryd.underlying4 _), (trodAll_cons_mk (Below.trod laidOut (by kernel_rfl) (of_decide_eq_true (by kernel_rfl)) k0 bel lt0) (trodAll_cons_mk (shut_int Tryd.underlying5 hv1) trodAll_mk0)), rfl, bel.frame _, fun h => by cases h⟩
theorem over : Rows.placeLeastRow.holds Tryd.pinned (OpenSpec.ofChange Rows.placeLeastSpec) :=
  OpenClaim.holds_of_wide 5 Tryd.f5 rfl rfl rfl rfl rfl rfl rfl ⟨rfl, rfl, rfl, rfl, rfl⟩ rfl rfl rfl rfl rfl (by kernel_rfl) Tryd.func5 (by kernel_rfl)
    (of_decide_eq_true (by kernel_rfl)) (by unfold Func.isWrapper; first | (rw [if_pos (by decide +kernel)]; kernel_rfl) | (rw [if_neg (by decide +kernel)]; exact ⟨rfl, rfl⟩))
    (fun os started H enc _ => lifted os started H enc)
theorem card : Claim7.holds Tryd.pinned (.plain (OpenSpec.ofChange Rows.placeLeastSpec)) Rows.placeLeastCard :=
  Claim7.holds_tied_plain_at .later [] [.data, .data, .pinned] true (true, "b59fba76812983a2edbfeb7dc69721ef72231d0e5408923366ca0978bc32635f") false
    over (fun _ h => by cases h) (by kernel_rfl) (fun _ h => by cases h) placeLeast_row_tie rfl ⟨rfl, rfl⟩ (by kernel_rfl) rfl
    (fun f fn hf hfn => by
      obtain rfl : f = 5 := Option.some.inj ((show Tryd.prog.funcNamed "epitome/epitomelaw08.PlaceLeast" = some 5 by kernel_rfl).symm.trans hf) |>.symm
      obtain rfl : fn = Tryd.f5 := (Option.some.inj (Tryd.func5.symm.trans hfn)).symm
      exact ⟨by kernel_rfl, fun j t ht => by
        rw [Tryd.params5] at ht
        match j, ht with
        | 0, ht =>
          obtain rfl : t = 22 := by simpa using ht.symm
          exact (show Tryd.prog.wantsStandIn 22 = false by kernel_rfl)
        | 1, ht =>
          obtain rfl : t = 5 := by simpa using ht.symm
          exact (show Tryd.prog.wantsStandIn 5 = false by kernel_rfl)
        | j + 2, ht => simp at ht⟩)
    (by kernel_rfl)
theorem proved : Rows.PlaceLeastCardSaid := card
end Go.Proofs.YtphbemkdhneklaaDoor.placeLeast
namespace Go.Proofs.YtphbemkdhneklaaDoor
theorem placeLeast_holds : Rows.PlaceLeastCardSaid := placeLeast.proved
#print axioms placeLeast_holds
end Go.Proofs.YtphbemkdhneklaaDoor
end
