import Derived.Test.YtnfaahacakliiaaDoorKOverKeepsA
import Derived.Test.YtnfaahacakliiaaDoorKOPA
import Derived.Below
import Derived.Deep.Draws
import Derived.Deep.AppendLies
import Derived.Maps.AppendAt
import Derived.OwnWalk
import Derived.Laws.BytesArg
import Derived.Laws.MakeOwn
import Derived.Laws.OwnMore
import Derived.Deep.OwnRows
import Derived.Tactics
import Derived.Lib.ConvBytes
import Derived.Laws.Slices
import Derived.WalkKit
import Derived.KernelRfl
import Derived.RowKit3
import Derived.Deep.LoopGhost
import Derived.Deep.QuietTactic
import Derived.BigQuiet
import Derived.WideLaws
import Derived.Deep.DeepCutAuto
import Derived.Deep.CutBlock
import Derived.Deep.RegionHeld3
import Derived.Laws.Rows
import Derived.Lib.AppendStr
import Derived.ArgAppend
import Derived.Laws.IdiomCopy
import Derived.RowKit
import Derived.OrdersHeld
import Derived.Laws.BitsLemmas
import Derived.Laws.StructEq
import Derived.Test.YtnfaahacakliiaaDoorProg
import Derived.Handy
import Derived.Shelf.Unicode.DecodeSlow
import Derived.Ground.NamesProg
import Derived.Shelf.Unicode.ValidAny
import Derived.Laws.RangeString
import Derived.Laws.RangeAny
import Derived.Lib.RuneCount
import Derived.Laws.IdiomStrings
import Derived.Laws.Cover4
import Derived.Great.BuildSlice
import Derived.Defers
import Derived.ProofKit
import Derived.OpenShut
import Derived.ShutString
import Derived.ChangeOld
import Derived.SizedLaws
import Derived.Lib.ValidLaws
import Derived.Test.YtnfaahacakliiaaDoorRows
import Derived.Lib.LaidU8T
import Derived.Lib.LaidIn
import Derived.LaidLaws
import Derived.Test.YtnfaahacakliiaaDoorTie
import Derived.Test.YtnfaahacakliiaaDoorCards
import Derived.Carry
import Derived.ChangeSame
import Derived.ChangeVars
import Derived.JoinedOf
import Derived.SevenTiedAt
section
namespace Go.Proofs.YtnfaahacakliiaaDoor.F
open Go.RowKit Go.Proofs.YtnfaahacakliiaaDoorW.PrintWords Go.Proofs.YtnfaahacakliiaaDoorW.PrintLast Go.Proofs.YtnfaahacakliiaaDoorW.PrintMore
attribute [local go_sem] max2_int min2_int max_two min_two max_three min_three max_four min_four cell_setCell_isSome
set_option linter.unusedVariables false
set_option linter.unusedSimpArgs false
def epitomelaw11_OverKeeps.Pure : Prop := ∀ (l0 : List (S32)) (l1 : List (S32)) (a2 : Int), (l0.length ≤ maxLen ∧ ∀ x_ ∈ l0, V32 x_) → (l1.length ≤ maxLen ∧ ∀ x_ ∈ l1, V32 x_) → (Lit.int .u8 a2).wf = true → ∃ k, epitomelaw11_OverKeeps.f k l0 l1 a2 = some true
end Go.Proofs.YtnfaahacakliiaaDoor.F
end
section
namespace Go.Proofs.YtnfaahacakliiaaDoor.F
open Go.RowKit Go.Proofs.YtnfaahacakliiaaDoorW.PrintWords Go.Proofs.YtnfaahacakliiaaDoorW.PrintLast Go.Proofs.YtnfaahacakliiaaDoorW.PrintMore
set_option linter.unusedVariables false
set_option linter.unusedSimpArgs false
theorem emptyS_full (u : Un) : emptyS u.sp = !fullU u := by
  cases u with
  | keep n => rw [empty_keep]; cases n <;> simp [fullU]
  | drop n => rw [empty_drop]; cases n <;> simp [fullU]
  | put l => rw [empty_put]; cases l <;> simp [fullU]
theorem isNp_canon : ∀ y : List U, isN ((canon y).map Un.sp) = true
  | [] => rfl
  | t :: y => by
    have ih := isNp_canon y
    rw [canon_cons]
    generalize canon y = c at ih
    unfold isN at *
    rcases c with _ | ⟨v, r⟩
    · cases t <;> simp [consU, isNp, emptyS_full, fullU]
    · simp only [List.map_cons, isNp, Bool.and_eq_true, emptyS_full] at ih
      obtain ⟨h1, _, h2⟩ := ih
      cases t <;> cases v <;> simp only [consU, List.map_cons, isNp, emptyS_full, Bool.and_eq_true] <;> (first | (refine ⟨by simp [fullU], by simp, ?_⟩) | skip) <;> first | exact h2 | exact ⟨h1, by simp [Un.sp], h2⟩ | (simp [Un.sp]; done)
end Go.Proofs.YtnfaahacakliiaaDoor.F
end
section
namespace Go.Proofs.YtnfaahacakliiaaDoor.F
open Go.RowKit Go.Proofs.YtnfaahacakliiaaDoorW.PrintWords Go.Proofs.YtnfaahacakliiaaDoorW.PrintLast Go.Proofs.YtnfaahacakliiaaDoorW.PrintMore
set_option linter.unusedVariables false
set_option linter.unusedSimpArgs false
theorem Pure.OverKeeps : epitomelaw11_OverKeeps.Pure := by
  intro l0 l1 a h0 h1 h2
  apply Ev.rounds
  obtain ⟨n, hn, en⟩ := rem64 a h2
  obtain ⟨us, hf0, f0⟩ := fitB l0 h0.1 h0.2 n (by omega)
  obtain ⟨vs, hf1, f1⟩ := fitB l1 h1.1 h1.2 n (by omega)
  have c0 := f0.cout
  have c1 := f1.cout
  have i0 := f0.cinU
  have i1 := f1.cinU
  have o0 := f0.coutU
  have o1 := f1.coutU
  have n0 := f0.cin
  have n1 := f1.cin
  have l9 := f0.len
  have l8 := f1.len
  have p0 := puts_le (exU us)
  have hc1 : cinU (exU us) = cinU (exU vs) := by omega
  have uv := overOk f0.runes hc1 (by omega) (by omega)
  have s1 := over_sizes (exU us) (exU vs) hc1
  have s2 := over_small hc1
  have ui := canon_in (overU (exU us) (exU vs))
  have kin := keepU_in
  have kout := keepU_out
  obtain ⟨o, ho⟩ : ∃ o, (vs.map Un.cout).sum = o := ⟨_, rfl⟩
  have e0 := over_is f0.ok f1.ok (by omega) (by omega) (by omega)
  have e1 := over_is f0.ok (keepU_ok n (by omega)) (by omega) (by rw [kout]; omega) (by rw [kin]; omega)
  have e2 := over_is (keepU_ok n (by omega)) f1.ok (by rw [kout]; omega) (by omega) (by rw [kin]; omega)
  rw [keepU_ex, show List.replicate n U.k = List.replicate (cinU (exU us)) .k by rw [i0], over_keep_right] at e1
  rw [keepU_ex, show List.replicate n U.k = List.replicate (cinU (exU vs)) .k by rw [i1], over_keep_left, o1, ho, canon_keeps] at e2
  have m0 := canon_length (exU us)
  have m1 := length_two (exU us)
  have sm := same_is ((canon (exU us)).map Un.sp) ((canon (exU us)).map Un.sp) (by rw [List.length_map]; omega)
  have sx := same_is (us.map Un.sp) (us.map Un.sp) (by rw [List.length_map]; omega)
  have sy := same_is (vs.map Un.sp) (vs.map Un.sp) (by rw [List.length_map]; omega)
  have klen : (keepU o).length ≤ 1 := by unfold keepU; split <;> simp
  have sk := same_is ((keepU o).map Un.sp) ((keepU o).map Un.sp) (by rw [List.length_map]; omega)
  rw [decide_eq_true rfl] at sm sx sy sk
  have q0 := canon_length (overU (exU us) (exU vs))
  have q1 := length_two (overU (exU us) (exU vs))
  have isn := normalIs_is ((canon (overU (exU us) (exU vs))).map Un.sp) (by rw [List.length_map]; omega)
  rw [isNp_canon] at isn
  have oi := opIn_is uv
  have oo := opOut_is f1.ok
  rw [ui, s1.1, o1, ho] at oi
  rw [ho] at oo
  obtain ⟨ws, hws⟩ : ∃ ws, canon (overU (exU us) (exU vs)) = ws := ⟨_, rfl⟩
  have hx : exU ws = overU (exU us) (exU vs) := by rw [← hws, ex_canon]
  rw [hws] at uv isn oi e0
  unfold epitomelaw11_OverKeeps.f
  rw [en]
  refine Ev.bind shown11 (Ev.bind hf0 (Ev.bind hf1 (Ev.bind e0 (Ev.bind (opKeep_is n (by omega)) (Ev.bind e1 (Ev.bind e2 (Ev.bind oo (Ev.bind (opKeep_is o (by omega)) ?_))))))))
  refine puts_up f0.ok (F := fun k c i => epitomelaw11_OverKeeps.l0 k l0 l1 true (n : Int) (us.map Un.sp) (vs.map Un.sp) (ws.map Un.sp) 0 0 ((canon (exU us)).map Un.sp) 0 ((keepU o).map Un.sp) 0 ((keepU o).map Un.sp) 0 c i) (E := fun k c => epitomelaw11_OverKeeps.l1 k l0 l1 true (n : Int) (us.map Un.sp) (vs.map Un.sp) (ws.map Un.sp) 0 0 ((canon (exU us)).map Un.sp) 0 ((keepU o).map Un.sp) 0 ((keepU o).map Un.sp) 0 c 0) (fun k c i => by rw [epitomelaw11_OverKeeps.l0]) 0 (by omega) ?_
  refine puts_down uv (F := fun k c i => epitomelaw11_OverKeeps.l1 k l0 l1 true (n : Int) (us.map Un.sp) (vs.map Un.sp) (ws.map Un.sp) 0 0 ((canon (exU us)).map Un.sp) 0 ((keepU o).map Un.sp) 0 ((keepU o).map Un.sp) 0 c i)
    (E := fun k c => (op_In.f k (ws.map Un.sp)).bind fun t135 => (op_Out.f k (vs.map Un.sp)).bind fun t136 => if t135 = t136 then ((normal_Is.f k (ws.map Un.sp)).bind fun t137 => if t137 = true then ((epitomeref04_Fit.f k l0 (n : Int)).bind fun t138 => (epitomeref04_Same.f k (us.map Un.sp) t138).bind fun t141 => if t141 = true then ((epitomeref04_Fit.f k l1 (n : Int)).bind fun t142 => (epitomeref04_Same.f k (vs.map Un.sp) t142).bind fun t145 => if t145 = true then ((normal_Of.f k (us.map Un.sp)).bind fun t146 => (epitomeref04_Same.f k ((canon (exU us)).map Un.sp) t146).bind fun t149 => if t149 = true then ((epitomeref04_Same.f k ((keepU o).map Un.sp) ((keepU o).map Un.sp)).bind fun t150 => if t150 = true then some (c == 0) else some false) else some false) else some false) else some false) else some false) else some false) (fun k c i => ?_) _ (by omega) ?_
  · rw [epitomelaw11_OverKeeps.l1]
    simp only [if_true]
  · refine Ev.bind oi (Ev.bind oo (ev_if_pos rfl (Ev.bind isn (ev_if_pos rfl (Ev.bind hf0 (Ev.bind sx (ev_if_pos rfl ?_)))))))
    refine Ev.bind hf1 (Ev.bind sy (ev_if_pos rfl (Ev.bind (normalOk_is f0.ok) (Ev.bind sm (ev_if_pos rfl (Ev.bind sk (ev_if_pos rfl ?_)))))))
    rw [hx, s1.2, show ((0 : Int) + ((putsU (exU us) : Nat) : Int) - ((putsU (exU us) : Nat) : Int) == 0) = true by simp]
    exact Ev.now true
end Go.Proofs.YtnfaahacakliiaaDoor.F
end
section
namespace Go.Proofs.YtnfaahacakliiaaDoor.overKeeps
open Go.ChangeShapes Go.WideShapes Go.ChangeAt Go.RowKit Go.Proofs.YtnfaahacakliiaaDoor.F
open Go.Proofs.YtnfaahacakliiaaDoorW.PrintWords
open Go.ChangeMaps (open_string shut_string)
set_option linter.unusedVariables false
theorem own : ownKnob Tryd.prog.godebug = none := by kernel_rfl
theorem laidOut : laidOutB Tryd.prog = true := by kernel_rfl
theorem laid_met (os : Os) (args : Array Value) : laidMetH Tryd.prog Rows.overKeepsRow.laid ((laidWorld os).forCall (fun _ _ => 0) ⟨#[], args, []⟩).memory :=
  (LaidIn.of_run (l := Rows.overKeepsRow.laid) [2, 0, 1] 8 (by kernel_rfl) (by kernel_rfl) (by kernel_rfl) (by kernel_rfl)).met
set_option maxRecDepth 100000 in
theorem lifted (os : Os) (started : os.Started) (H : Type) (enc : TypeId × Value → H) :
    ReturnsInHanded {} Tryd.checked os 6 .any (fun w args => (Rows.overKeepsSpec.pre enc Tryd.prog Tryd.f6 [] false w args ∧ laidMetH Tryd.prog Rows.overKeepsRow.laid w) ∧ sizedMet enc Tryd.prog Tryd.f6 (OpenSpec.ofChange Rows.overKeepsSpec) false w args) (Rows.overKeepsSpec.post enc Tryd.prog Tryd.f6 false true false false) := by
  refine returnsInHanded_of_change_and (C := Tryd.checked) (X := (fun w _ => laidMetH Tryd.prog Rows.overKeepsRow.laid w)) (fun _ _ _ hh h => h.of_heap hh) own started (by kernel_rfl) Tryd.func6
    (ChangeSpec.witness_at (enc := enc) (C := Tryd.checked) (os := os) (X := (fun w _ => laidMetH Tryd.prog Rows.overKeepsRow.laid w)) false (laidWorld os) #[.slice none 0 0, .slice none 0 0, .int .u8 0] 8 rfl (by kernel_rfl) (by kernel_rfl) (by kernel_rfl) (by kernel_rfl) (by kernel_rfl) (laid_met os _)) ?_
  intro W base args ds gs before hval0 hW _ _ hL _
  have hG : Glob W := glob_of_reads (Lib.laidMet.reads hL (.tail _ (.tail _ (.head _)))) (Lib.laidMet.reads hL (.head _)) (Lib.laidMet.reads hL (.tail _ (.head _)))
  have hval : ∀ (j : Nat) t v, Tryd.f6.params[j]? = some t → args[j]? = some v → Value.okWide Tryd.prog W .any base t v := hval0
  have hW' := hW
  obtain ⟨p, q, hA0, hV, rfl, hfz, hnd⟩ := hW
  have hA : DataW.TrodAll enc Tryd.prog W 0 (fun _ => true) true Tryd.f6.params.toList args.toList ds p := hA0
  rw [Tryd.params6] at hA hval
  obtain ⟨v0, vs0, d0, ds0, p0, q0, hargs, rfl, rfl, h0, r0⟩ := trodAll_cons hA
  obtain ⟨v1, vs1, d1, ds1, p1, q1, rfl, rfl, rfl, h1, r1⟩ := trodAll_cons r0
  obtain ⟨v2, vs2, d2, ds2, p2, q2, rfl, rfl, rfl, h2, r2⟩ := trodAll_cons r1
  obtain ⟨rfl, rfl, rfl⟩ := trodAll_nil r2
  obtain rfl : args = #[v0, v1, v2] := by cases args; simp_all
  obtain ⟨rfl, rfl⟩ := trodVars_none hV
  obtain ⟨A0, n0, c0, rfl⟩ := okWide_slice Tryd.underlying22 (hval 0 22 v0 rfl rfl)
  have k0 := h0
  have lt0 : ∀ x ∈ p0, x.block < W.heap.size := by obtain ⟨m, hm⟩ := k0; exact DataW.trod_lt m _ _ _ hm
  obtain ⟨l0, z0, hv0⟩ : ∃ l, (Kd.slice 32 k32).K W l [Value.slice A0 n0 c0] ∧ (fun v_ => (v_.length ≤ maxLen ∧ ∀ x_ ∈ v_, V32 x_)) l := by
    obtain ⟨fuel, hf⟩ := h0
    exact (opens_slice Tryd.underlying22 (by kernel_rfl) opens32) enc W _ _ _ _ _ _ hf
  obtain ⟨A_, c_, e, hc0, hr0⟩ := z0
  simp only [List.cons.injEq, Value.slice.injEq, and_true] at e
  obtain ⟨rfl, rfl, rfl⟩ := e
  obtain ⟨A1, n1, c1, rfl⟩ := okWide_slice Tryd.underlying22 (hval 1 22 v1 rfl rfl)
  have k1 := h1
  have lt1 : ∀ x ∈ p1, x.block < W.heap.size := by obtain ⟨m, hm⟩ := k1; exact DataW.trod_lt m _ _ _ hm
  obtain ⟨l1, z1, hv1⟩ : ∃ l, (Kd.slice 32 k32).K W l [Value.slice A1 n1 c1] ∧ (fun v_ => (v_.length ≤ maxLen ∧ ∀ x_ ∈ v_, V32 x_)) l := by
    obtain ⟨fuel, hf⟩ := h1
    exact (opens_slice Tryd.underlying22 (by kernel_rfl) opens32) enc W _ _ _ _ _ _ hf
  obtain ⟨A_, c_, e, hc1, hr1⟩ := z1
  simp only [List.cons.injEq, Value.slice.injEq, and_true] at e
  obtain ⟨rfl, rfl, rfl⟩ := e
  obtain ⟨a2, rfl, rfl, rfl, hv2⟩ := open_int Tryd.underlying5 (hval 2 5 v2 rfl rfl) h2
  obtain ⟨k, h⟩ := Pure.OverKeeps l0 l1 a2 hv0 hv1 hv2
  refine (epitomelaw11_OverKeeps.calls k _ _ l0 _ _ l1 a2 true W hG hr0 hc0 hr1 hc1 h).mono ?_
  rintro e W' ⟨rfl, hd⟩
  have bel : Below W.heap.size W W' := hd
  exact ⟨_, rfl, _, _, _, [], _, [], hW', trodAll_mk1 (shut_bool Tryd.underlying4 _), (trodAll_cons_mk (Below.trod laidOut (by kernel_rfl) (of_decide_eq_true (by kernel_rfl)) k0 bel lt0) (trodAll_cons_mk (Below.trod laidOut (by kernel_rfl) (of_decide_eq_true (by kernel_rfl)) k1 bel lt1) (trodAll_cons_mk (shut_int Tryd.underlying5 hv2) trodAll_mk0))), rfl, bel.frame _, fun h => by cases h⟩
theorem over : Rows.overKeepsRow.holds Tryd.pinned (OpenSpec.ofChange Rows.overKeepsSpec) :=
  OpenClaim.holds_of_wide 6 Tryd.f6 rfl rfl rfl rfl rfl rfl rfl ⟨rfl, rfl, rfl, rfl, rfl⟩ rfl rfl rfl rfl rfl (by kernel_rfl) Tryd.func6 (by kernel_rfl)
    (of_decide_eq_true (by kernel_rfl)) (by unfold Func.isWrapper; first | (rw [if_pos (by decide +kernel)]; kernel_rfl) | (rw [if_neg (by decide +kernel)]; exact ⟨rfl, rfl⟩))
    (fun os started H enc _ => lifted os started H enc)
theorem card : Claim7.holds Tryd.pinned (.plain (OpenSpec.ofChange Rows.overKeepsSpec)) Rows.overKeepsCard :=
  Claim7.holds_tied_plain_at .later [] [.data, .data, .pinned] true (true, "5629122fc7e22ec38083d154da1d52d5b6c509a811ad847a0e4b167bf671c9f1") false
    over (fun _ h => by cases h) (by kernel_rfl) (fun _ h => by cases h) overKeeps_row_tie rfl ⟨rfl, rfl⟩ (by kernel_rfl) rfl
    (fun f fn hf hfn => by
      obtain rfl : f = 6 := Option.some.inj ((show Tryd.prog.funcNamed "epitome/epitomelaw11.OverKeeps" = some 6 by kernel_rfl).symm.trans hf) |>.symm
      obtain rfl : fn = Tryd.f6 := (Option.some.inj (Tryd.func6.symm.trans hfn)).symm
      exact ⟨by kernel_rfl, fun j t ht => by
        rw [Tryd.params6] at ht
        match j, ht with
        | 0, ht =>
          obtain rfl : t = 22 := by simpa using ht.symm
          exact (show Tryd.prog.wantsStandIn 22 = false by kernel_rfl)
        | 1, ht =>
          obtain rfl : t = 22 := by simpa using ht.symm
          exact (show Tryd.prog.wantsStandIn 22 = false by kernel_rfl)
        | 2, ht =>
          obtain rfl : t = 5 := by simpa using ht.symm
          exact (show Tryd.prog.wantsStandIn 5 = false by kernel_rfl)
        | j + 3, ht => simp at ht⟩)
    (by kernel_rfl)
theorem proved : Rows.OverKeepsCardSaid := card
end Go.Proofs.YtnfaahacakliiaaDoor.overKeeps
namespace Go.Proofs.YtnfaahacakliiaaDoor
theorem overKeeps_holds : Rows.OverKeepsCardSaid := overKeeps.proved
#print axioms overKeeps_holds
end Go.Proofs.YtnfaahacakliiaaDoor
end
