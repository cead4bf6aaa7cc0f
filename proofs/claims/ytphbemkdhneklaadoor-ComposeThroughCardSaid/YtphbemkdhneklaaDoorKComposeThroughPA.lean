import Derived.Test.YtphbemkdhneklaaDoorKCTD
import Derived.Test.YtphbemkdhneklaaDoorKCTPA
import Derived.Below
import Derived.Deep.Draws
import Derived.Deep.AppendLies
import Derived.Maps.AppendAt
import Derived.OwnWalk
import Derived.Laws.BytesArg
import Derived.Laws.MakeOwn
import Derived.Laws.OwnMore
import Derived.Deep.OwnRows
import Derived.Tactics
import Derived.Lib.ConvBytes
import Derived.Laws.Slices
import Derived.WalkKit
import Derived.KernelRfl
import Derived.RowKit3
import Derived.Deep.LoopGhost
import Derived.Deep.QuietTactic
import Derived.BigQuiet
import Derived.WideLaws
import Derived.Deep.DeepCutAuto
import Derived.Deep.CutBlock
import Derived.Deep.RegionHeld3
import Derived.Laws.Rows
import Derived.Lib.AppendStr
import Derived.ArgAppend
import Derived.Laws.IdiomCopy
import Derived.RowKit
import Derived.OrdersHeld
import Derived.Laws.BitsLemmas
import Derived.Laws.StructEq
import Derived.Test.YtphbemkdhneklaaDoorProg
import Derived.Handy
import Derived.Shelf.Unicode.DecodeSlow
import Derived.Ground.NamesProg
import Derived.Shelf.Unicode.ValidAny
import Derived.Laws.RangeString
import Derived.Laws.RangeAny
import Derived.Lib.RuneCount
import Derived.Laws.IdiomStrings
import Derived.Laws.Cover4
import Derived.Great.BuildSlice
import Derived.RangeFuncNested
import Derived.RangeFuncBound
import Derived.RangeFuncCalls
import Derived.RangeFuncLeaves
import Derived.Shelf.Abstract
import Derived.Shelf.RegionOpen
import Derived.OwnWalkIn
import Derived.TacticsInMore
import Derived.LoopNIn
import Derived.LoopIn
import Derived.ProofKit
import Derived.OpenShut
import Derived.ShutString
import Derived.ChangeOld
import Derived.SizedLaws
import Derived.Lib.ValidLaws
import Derived.Test.YtphbemkdhneklaaDoorRows
import Derived.Lib.LaidU8T
import Derived.Lib.LaidIn
import Derived.LaidLaws
import Derived.Test.YtphbemkdhneklaaDoorTie
import Derived.Test.YtphbemkdhneklaaDoorCards
import Derived.Carry
import Derived.ChangeSame
import Derived.ChangeVars
import Derived.JoinedOf
import Derived.SevenTiedAt
section
namespace Go.Proofs.YtphbemkdhneklaaDoor.F
open Go.RowKit Go.Proofs.YtphbemkdhneklaaDoorW.PrintWords Go.Proofs.YtphbemkdhneklaaDoorW.PrintLast Go.Proofs.YtphbemkdhneklaaDoorW.PrintMore
attribute [local go_sem] max2_int min2_int max_two min_two max_three min_three max_four min_four cell_setCell_isSome
set_option linter.unusedVariables false
set_option linter.unusedSimpArgs false
def epitomelaw09_ComposeThrough.Pure : Prop := ∀ (l0 : List (S51)) (l1 : List (S51)) (a2 : Int), (l0.length ≤ maxLen ∧ ∀ x_ ∈ l0, V51 x_) → (l1.length ≤ maxLen ∧ ∀ x_ ∈ l1, V51 x_) → (Lit.int .u8 a2).wf = true → ∃ k, epitomelaw09_ComposeThrough.f k l0 l1 a2 = some true
end Go.Proofs.YtphbemkdhneklaaDoor.F
end
section
namespace Go.Proofs.YtphbemkdhneklaaDoor.F
open Go.RowKit Go.Proofs.YtphbemkdhneklaaDoorW.PrintWords Go.Proofs.YtphbemkdhneklaaDoorW.PrintLast Go.Proofs.YtphbemkdhneklaaDoorW.PrintMore
set_option linter.unusedVariables false
set_option linter.unusedSimpArgs false
theorem through_l1 {us vs ws : List Un} (hu : Ok us) (hv : Ok vs) (hw : Ok ws) (hc : (us.map Un.cout).sum = (vs.map Un.cin).sum) (hwx : exU ws = compU (exU us) (exU vs)) (hb : (vs.map Un.cout).sum ≤ 1048576) :
    ∀ (d g : Nat), g + d = (vs.map Un.cout).sum + 1 → Ev (fun k => epitomelaw09_ComposeThrough.l1 k (us.map Un.sp) (vs.map Un.sp) (ws.map Un.sp) (g : Int)) true
  | d, g, h => by
    have hcu : coutU (exU us) = cinU (exU vs) := by rw [coutU_ex, cinU_ex]; exact hc
    have hs := comp_sizes (exU us) (exU vs) hcu
    have vo := coutU_ex vs
    have vi := cinU_ex vs
    have uo := coutU_ex us
    have wo := coutU_ex ws
    rw [hwx, hs.2] at wo
    by_cases hd : d = 0
    · refine Ev.step (f := fun k => (op_Out.f k (vs.map Un.sp)).bind fun t120 => if (g : Int) ≤ t120 then epitomelaw09_ComposeThrough.j3 k (us.map Un.sp) (vs.map Un.sp) (ws.map Un.sp) (g : Int) (decide ((g : Int) < 200)) else epitomelaw09_ComposeThrough.j3 k (us.map Un.sp) (vs.map Un.sp) (ws.map Un.sp) (g : Int) false) (fun k => by rw [epitomelaw09_ComposeThrough.l1]) (Ev.bind (opOut_is hv) (ev_if_neg (by omega) ?_))
      refine Ev.step (f := fun _ => some true) (fun k => ?_) (Ev.now _)
      rw [epitomelaw09_ComposeThrough.j3, if_neg (by simp)]
    · by_cases h2 : g < 200
      · obtain ⟨d', rfl⟩ : ∃ d', d = d' + 1 := ⟨d - 1, by omega⟩
        have ll := least_le (exU vs) g
        have ih := through_l1 hu hv hw hc hwx hb d' (g + 1) (by omega)
        refine Ev.step (f := fun k => (op_Out.f k (vs.map Un.sp)).bind fun t120 => if (g : Int) ≤ t120 then epitomelaw09_ComposeThrough.j3 k (us.map Un.sp) (vs.map Un.sp) (ws.map Un.sp) (g : Int) (decide ((g : Int) < 200)) else epitomelaw09_ComposeThrough.j3 k (us.map Un.sp) (vs.map Un.sp) (ws.map Un.sp) (g : Int) false) (fun k => by rw [epitomelaw09_ComposeThrough.l1]) (Ev.bind (opOut_is hv) (ev_if_pos (by omega) ?_))
        refine Ev.step (f := fun k => (place_Least.f k (vs.map Un.sp) (g : Int)).bind fun bt121 => (place_Least.f k (us.map Un.sp) bt121.1).bind fun bt123 => (place_Least.f k (ws.map Un.sp) (g : Int)).bind fun bt125 => if bt121.2 = 0 then (if bt123.2 = 0 then (if bt125.2 = 0 then (if bt123.1 = bt125.1 then epitomelaw09_ComposeThrough.l1 k (us.map Un.sp) (vs.map Un.sp) (ws.map Un.sp) (wrap64 ((g : Int) + 1)) else some false) else some false) else some false) else some false) (fun k => by rw [epitomelaw09_ComposeThrough.j3, if_pos (by simp; omega)]) ?_
        refine Ev.bind (placeLeast_is hv g (by omega)) (Ev.bind (placeLeast_is hu _ (by omega)) (Ev.bind (placeLeast_is hw g (by omega)) ?_))
        refine ev_if_pos rfl (ev_if_pos rfl (ev_if_pos rfl (ev_if_pos (by rw [hwx, least_comp _ _ _ hcu (by omega)]) ?_)))
        rw [w64_succ _ (by omega)]
        exact ih
      · refine Ev.step (f := fun k => (op_Out.f k (vs.map Un.sp)).bind fun t120 => if (g : Int) ≤ t120 then epitomelaw09_ComposeThrough.j3 k (us.map Un.sp) (vs.map Un.sp) (ws.map Un.sp) (g : Int) (decide ((g : Int) < 200)) else epitomelaw09_ComposeThrough.j3 k (us.map Un.sp) (vs.map Un.sp) (ws.map Un.sp) (g : Int) false) (fun k => by rw [epitomelaw09_ComposeThrough.l1]) (Ev.bind (opOut_is hv) (ev_if_pos (by omega) ?_))
        refine Ev.step (f := fun _ => some true) (fun k => ?_) (Ev.now _)
        rw [epitomelaw09_ComposeThrough.j3, if_neg (by simp; omega)]
theorem through_l0 {us vs ws : List Un} (hu : Ok us) (hv : Ok vs) (hw : Ok ws) (hc : (us.map Un.cout).sum = (vs.map Un.cin).sum) (hwx : exU ws = compU (exU us) (exU vs)) (hb : (vs.map Un.cout).sum ≤ 1048576) :
    ∀ (d g : Nat), g + d = (us.map Un.cin).sum + 1 → Ev (fun k => epitomelaw09_ComposeThrough.l0 k (us.map Un.sp) (vs.map Un.sp) (ws.map Un.sp) (g : Int)) true
  | d, g, h => by
    have hcu : coutU (exU us) = cinU (exU vs) := by rw [coutU_ex, cinU_ex]; exact hc
    have hs := comp_sizes (exU us) (exU vs) hcu
    have ui := cinU_ex us
    have uo := coutU_ex us
    have vi := cinU_ex vs
    have wi := cinU_ex ws
    rw [hwx, hs.1] at wi
    have hci := hu.cin
    by_cases hd : d = 0
    · refine Ev.step (f := fun k => (op_In.f k (us.map Un.sp)).bind fun t113 => if (g : Int) ≤ t113 then ((place_Where.f k (us.map Un.sp) (g : Int)).bind fun bt114 => (place_Where.f k (vs.map Un.sp) bt114.1).bind fun bt116 => (place_Where.f k (ws.map Un.sp) (g : Int)).bind fun bt118 => if bt114.2 = 0 then (if bt116.2 = 0 then (if bt118.2 = 0 then (if bt116.1 = bt118.1 then epitomelaw09_ComposeThrough.l0 k (us.map Un.sp) (vs.map Un.sp) (ws.map Un.sp) (wrap64 ((g : Int) + 1)) else some false) else some false) else some false) else some false) else epitomelaw09_ComposeThrough.l1 k (us.map Un.sp) (vs.map Un.sp) (ws.map Un.sp) 0) (fun k => by rw [epitomelaw09_ComposeThrough.l0]) (Ev.bind (opIn_is hu) (ev_if_neg (by omega) ?_))
      exact through_l1 hu hv hw hc hwx hb _ 0 (Nat.zero_add _)
    · obtain ⟨d', rfl⟩ : ∃ d', d = d' + 1 := ⟨d - 1, by omega⟩
      have wl := where_le (exU us) g
      have ih := through_l0 hu hv hw hc hwx hb d' (g + 1) (by omega)
      refine Ev.step (f := fun k => (op_In.f k (us.map Un.sp)).bind fun t113 => if (g : Int) ≤ t113 then ((place_Where.f k (us.map Un.sp) (g : Int)).bind fun bt114 => (place_Where.f k (vs.map Un.sp) bt114.1).bind fun bt116 => (place_Where.f k (ws.map Un.sp) (g : Int)).bind fun bt118 => if bt114.2 = 0 then (if bt116.2 = 0 then (if bt118.2 = 0 then (if bt116.1 = bt118.1 then epitomelaw09_ComposeThrough.l0 k (us.map Un.sp) (vs.map Un.sp) (ws.map Un.sp) (wrap64 ((g : Int) + 1)) else some false) else some false) else some false) else some false) else epitomelaw09_ComposeThrough.l1 k (us.map Un.sp) (vs.map Un.sp) (ws.map Un.sp) 0) (fun k => by rw [epitomelaw09_ComposeThrough.l0]) (Ev.bind (opIn_is hu) (ev_if_pos (by omega) ?_))
      refine Ev.bind (placeWhere_is hu g (by omega)) (Ev.bind (placeWhere_is hv _ (by omega)) (Ev.bind (placeWhere_is hw g (by omega)) ?_))
      refine ev_if_pos rfl (ev_if_pos rfl (ev_if_pos rfl (ev_if_pos (by rw [hwx, where_comp _ _ _ hcu (by omega)]) ?_)))
      rw [w64_succ _ (by omega)]
      exact ih
theorem rem31 (x : Int) (h : (Lit.int .u8 x).wf = true) : ∃ n : Nat, n ≤ 30 ∧ wrap64 (Int.tmod x 31) = (n : Int) := by
  have := wf_u8 h
  have h1 : 0 ≤ Int.tmod x 31 := Int.tmod_nonneg _ this.1
  have h2 : Int.tmod x 31 < 31 := Int.tmod_lt_of_pos _ (by decide)
  refine ⟨(Int.tmod x 31).toNat, by omega, ?_⟩
  rw [w64 (by omega) (by omega)]
  omega
theorem Pure.ComposeThrough : epitomelaw09_ComposeThrough.Pure := by
  intro l0 l1 a h0 h1 h2
  apply Ev.rounds
  obtain ⟨n, hn, en⟩ := rem31 a h2
  obtain ⟨us, hf0, f0⟩ := fitB l0 h0.1 h0.2 n (by omega)
  have c0 := f0.cout
  obtain ⟨vs, hf1, f1⟩ := fitB l1 h1.1 h1.2 _ (show (us.map Un.cout).sum ≤ 1048576 by omega)
  have c1 := f1.cout
  have n0 := f0.cin
  have n1 := f1.cin
  have i0 := f0.cinU
  have i1 := f1.cinU
  have o0 := f0.coutU
  have o1 := f1.coutU
  have uv := compOk (a := 0) (b := 0) f0.runes f1.runes (by omega) (by omega) (by omega)
  unfold epitomelaw09_ComposeThrough.f
  rw [en]
  refine Ev.bind shown09 (Ev.bind hf0 (Ev.bind (opOut_is f0.ok) (Ev.bind hf1 ?_)))
  refine Ev.bind (compose_is f0.ok f1.ok (by omega) (by omega) (by omega)) (ev_if_pos rfl ?_)
  refine Ev.step (f := fun k => epitomelaw09_ComposeThrough.l0 k (us.map Un.sp) (vs.map Un.sp) ((canon (compU (exU us) (exU vs))).map Un.sp) 0) (fun k => by rw [epitomelaw09_ComposeThrough.j0, if_neg (by simp)]) ?_
  exact through_l0 f0.ok f1.ok uv (by omega) (ex_canon _) (by omega) _ 0 (Nat.zero_add _)
end Go.Proofs.YtphbemkdhneklaaDoor.F
end
section
namespace Go.Proofs.YtphbemkdhneklaaDoor.composeThrough
open Go.ChangeShapes Go.WideShapes Go.ChangeAt Go.RowKit Go.Proofs.YtphbemkdhneklaaDoor.F
open Go.Proofs.YtphbemkdhneklaaDoorW.PrintWords
open Go.ChangeMaps (open_string shut_string)
set_option linter.unusedVariables false
theorem own : ownKnob Tryd.prog.godebug = none := by kernel_rfl
theorem laidOut : laidOutB Tryd.prog = true := by kernel_rfl
theorem laid_met (os : Os) (args : Array Value) : laidMetH Tryd.prog Rows.composeThroughRow.laid ((laidWorld os).forCall (fun _ _ => 0) ⟨#[], args, []⟩).memory :=
  (LaidIn.of_run (l := Rows.composeThroughRow.laid) [2, 0, 1] 8 (by kernel_rfl) (by kernel_rfl) (by kernel_rfl) (by kernel_rfl)).met
set_option maxRecDepth 100000 in
theorem lifted (os : Os) (started : os.Started) (H : Type) (enc : TypeId × Value → H) :
    ReturnsInHanded {} Tryd.checked os 13 .any (fun w args => (Rows.composeThroughSpec.pre enc Tryd.prog Tryd.f13 [] false w args ∧ laidMetH Tryd.prog Rows.composeThroughRow.laid w) ∧ sizedMet enc Tryd.prog Tryd.f13 (OpenSpec.ofChange Rows.composeThroughSpec) false w args) (Rows.composeThroughSpec.post enc Tryd.prog Tryd.f13 false true false false) := by
  refine returnsInHanded_of_change_and (C := Tryd.checked) (X := (fun w _ => laidMetH Tryd.prog Rows.composeThroughRow.laid w)) (fun _ _ _ hh h => h.of_heap hh) own started (by kernel_rfl) Tryd.func13
    (ChangeSpec.witness_at (enc := enc) (C := Tryd.checked) (os := os) (X := (fun w _ => laidMetH Tryd.prog Rows.composeThroughRow.laid w)) false (laidWorld os) #[.slice none 0 0, .slice none 0 0, .int .u8 0] 8 rfl (by kernel_rfl) (by kernel_rfl) (by kernel_rfl) (by kernel_rfl) (by kernel_rfl) (laid_met os _)) ?_
  intro W base args ds gs before hval0 hW _ _ hL _
  have hG : Glob W := glob_of_reads (Lib.laidMet.reads hL (.tail _ (.tail _ (.head _)))) (Lib.laidMet.reads hL (.head _)) (Lib.laidMet.reads hL (.tail _ (.head _)))
  have hval : ∀ (j : Nat) t v, Tryd.f13.params[j]? = some t → args[j]? = some v → Value.okWide Tryd.prog W .any base t v := hval0
  have hW' := hW
  obtain ⟨p, q, hA0, hV, rfl, hfz, hnd⟩ := hW
  have hA : DataW.TrodAll enc Tryd.prog W 0 (fun _ => true) true Tryd.f13.params.toList args.toList ds p := hA0
  rw [Tryd.params13] at hA hval
  obtain ⟨v0, vs0, d0, ds0, p0, q0, hargs, rfl, rfl, h0, r0⟩ := trodAll_cons hA
  obtain ⟨v1, vs1, d1, ds1, p1, q1, rfl, rfl, rfl, h1, r1⟩ := trodAll_cons r0
  obtain ⟨v2, vs2, d2, ds2, p2, q2, rfl, rfl, rfl, h2, r2⟩ := trodAll_cons r1
  obtain ⟨rfl, rfl, rfl⟩ := trodAll_nil r2
  obtain rfl : args = #[v0, v1, v2] := by cases args; simp_all
  obtain ⟨rfl, rfl⟩ := trodVars_none hV
  obtain ⟨A0, n0, c0, rfl⟩ := okWide_slice Tryd.underlying22 (hval 0 22 v0 rfl rfl)
  have k0 := h0
  have lt0 : ∀ x ∈ p0, x.block < W.heap.size := by obtain ⟨m, hm⟩ := k0; exact DataW.trod_lt m _ _ _ hm
  obtain ⟨l0, z0, hv0⟩ : ∃ l, (Kd.slice 51 k51).K W l [Value.slice A0 n0 c0] ∧ (fun v_ => (v_.length ≤ maxLen ∧ ∀ x_ ∈ v_, V51 x_)) l := by
    obtain ⟨fuel, hf⟩ := h0
    exact (opens_slice Tryd.underlying22 (by kernel_rfl) opens51) enc W _ _ _ _ _ _ hf
  obtain ⟨A_, c_, e, hc0, hr0⟩ := z0
  simp only [List.cons.injEq, Value.slice.injEq, and_true] at e
  obtain ⟨rfl, rfl, rfl⟩ := e
  obtain ⟨A1, n1, c1, rfl⟩ := okWide_slice Tryd.underlying22 (hval 1 22 v1 rfl rfl)
  have k1 := h1
  have lt1 : ∀ x ∈ p1, x.block < W.heap.size := by obtain ⟨m, hm⟩ := k1; exact DataW.trod_lt m _ _ _ hm
  obtain ⟨l1, z1, hv1⟩ : ∃ l, (Kd.slice 51 k51).K W l [Value.slice A1 n1 c1] ∧ (fun v_ => (v_.length ≤ maxLen ∧ ∀ x_ ∈ v_, V51 x_)) l := by
    obtain ⟨fuel, hf⟩ := h1
    exact (opens_slice Tryd.underlying22 (by kernel_rfl) opens51) enc W _ _ _ _ _ _ hf
  obtain ⟨A_, c_, e, hc1, hr1⟩ := z1
  simp only [List.cons.injEq, Value.slice.injEq, and_true] at e
  obtain ⟨rfl, rfl, rfl⟩ := e
  obtain ⟨a2, rfl, rfl, rfl, hv2⟩ := open_int Tryd.underlying5 (hval 2 5 v2 rfl rfl) h2
  obtain ⟨k, h⟩ := Pure.ComposeThrough l0 l1 a2 hv0 hv1 hv2
  refine (epitomelaw09_ComposeThrough.calls k _ _ l0 _ _ l1 a2 true W hG hr0 hc0 hr1 hc1 h).mono ?_
  rintro e W' ⟨rfl, hd⟩
  have bel : Below W.heap.size W W' := hd
  exact ⟨_, rfl, _, _, _, [], _, [], hW', trodAll_mk1 (shut_bool Tryd.underlying4 _), (trodAll_cons_mk (Below.trod laidOut (by kernel_rfl) (of_decide_eq_true (by kernel_rfl)) k0 bel lt0) (trodAll_cons_mk (Below.trod laidOut (by kernel_rfl) (of_decide_eq_true (by kernel_rfl)) k1 bel lt1) (trodAll_cons_mk (shut_int Tryd.underlying5 hv2) trodAll_mk0))), rfl, bel.frame _, fun h => by cases h⟩
theorem over : Rows.composeThroughRow.holds Tryd.pinned (OpenSpec.ofChange Rows.composeThroughSpec) :=
  OpenClaim.holds_of_wide 13 Tryd.f13 rfl rfl rfl rfl rfl rfl rfl ⟨rfl, rfl, rfl, rfl, rfl⟩ rfl rfl rfl rfl rfl (by kernel_rfl) Tryd.func13 (by kernel_rfl)
    (of_decide_eq_true (by kernel_rfl)) (by unfold Func.isWrapper; first | (rw [if_pos (by decide +kernel)]; kernel_rfl) | (rw [if_neg (by decide +kernel)]; exact ⟨rfl, rfl⟩))
    (fun os started H enc _ => lifted os started H enc)
theorem card : Claim7.holds Tryd.pinned (.plain (OpenSpec.ofChange Rows.composeThroughSpec)) Rows.composeThroughCard :=
  Claim7.holds_tied_plain_at .later [] [.data, .data, .pinned] true (true, "b59fba76812983a2edbfeb7dc69721ef72231d0e5408923366ca0978bc32635f") false
    over (fun _ h => by cases h) (by kernel_rfl) (fun _ h => by cases h) composeThrough_row_tie rfl ⟨rfl, rfl⟩ (by kernel_rfl) rfl
    (fun f fn hf hfn => by
      obtain rfl : f = 13 := Option.some.inj ((show Tryd.prog.funcNamed "epitome/epitomelaw09.ComposeThrough" = some 13 by kernel_rfl).symm.trans hf) |>.symm
      obtain rfl : fn = Tryd.f13 := (Option.some.inj (Tryd.func13.symm.trans hfn)).symm
      exact ⟨by kernel_rfl, fun j t ht => by
        rw [Tryd.params13] at ht
        match j, ht with
        | 0, ht =>
          obtain rfl : t = 22 := by simpa using ht.symm
          exact (show Tryd.prog.wantsStandIn 22 = false by kernel_rfl)
        | 1, ht =>
          obtain rfl : t = 22 := by simpa using ht.symm
          exact (show Tryd.prog.wantsStandIn 22 = false by kernel_rfl)
        | 2, ht =>
          obtain rfl : t = 5 := by simpa using ht.symm
          exact (show Tryd.prog.wantsStandIn 5 = false by kernel_rfl)
        | j + 3, ht => simp at ht⟩)
    (by kernel_rfl)
theorem proved : Rows.ComposeThroughCardSaid := card
end Go.Proofs.YtphbemkdhneklaaDoor.composeThrough
namespace Go.Proofs.YtphbemkdhneklaaDoor
theorem composeThrough_holds : Rows.ComposeThroughCardSaid := composeThrough.proved
#print axioms composeThrough_holds
end Go.Proofs.YtphbemkdhneklaaDoor
end
