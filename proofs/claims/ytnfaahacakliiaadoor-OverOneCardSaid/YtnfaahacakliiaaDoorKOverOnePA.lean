import Derived.Test.YtnfaahacakliiaaDoorKOverOneA
import Derived.Test.YtnfaahacakliiaaDoorKOPA
import Derived.Below
import Derived.Deep.Draws
import Derived.Deep.AppendLies
import Derived.Maps.AppendAt
import Derived.OwnWalk
import Derived.Laws.BytesArg
import Derived.Laws.MakeOwn
import Derived.Laws.OwnMore
import Derived.Deep.OwnRows
import Derived.Tactics
import Derived.Lib.ConvBytes
import Derived.Laws.Slices
import Derived.WalkKit
import Derived.KernelRfl
import Derived.RowKit3
import Derived.Deep.LoopGhost
import Derived.Deep.QuietTactic
import Derived.BigQuiet
import Derived.WideLaws
import Derived.Deep.DeepCutAuto
import Derived.Deep.CutBlock
import Derived.Deep.RegionHeld3
import Derived.Laws.Rows
import Derived.Lib.AppendStr
import Derived.ArgAppend
import Derived.Laws.IdiomCopy
import Derived.RowKit
import Derived.OrdersHeld
import Derived.Laws.BitsLemmas
import Derived.Laws.StructEq
import Derived.Test.YtnfaahacakliiaaDoorProg
import Derived.Handy
import Derived.Shelf.Unicode.DecodeSlow
import Derived.Ground.NamesProg
import Derived.Shelf.Unicode.ValidAny
import Derived.Laws.RangeString
import Derived.Laws.RangeAny
import Derived.Lib.RuneCount
import Derived.Laws.IdiomStrings
import Derived.Laws.Cover4
import Derived.Great.BuildSlice
import Derived.Defers
import Derived.ProofKit
import Derived.OpenShut
import Derived.ShutString
import Derived.ChangeOld
import Derived.SizedLaws
import Derived.Lib.ValidLaws
import Derived.Test.YtnfaahacakliiaaDoorRows
import Derived.Lib.LaidU8T
import Derived.Lib.LaidIn
import Derived.LaidLaws
import Derived.Test.YtnfaahacakliiaaDoorTie
import Derived.Test.YtnfaahacakliiaaDoorCards
import Derived.Carry
import Derived.ChangeSame
import Derived.ChangeVars
import Derived.JoinedOf
import Derived.SevenTiedAt
section
namespace Go.Proofs.YtnfaahacakliiaaDoor.F
open Go.RowKit Go.Proofs.YtnfaahacakliiaaDoorW.PrintWords Go.Proofs.YtnfaahacakliiaaDoorW.PrintLast Go.Proofs.YtnfaahacakliiaaDoorW.PrintMore
attribute [local go_sem] max2_int min2_int max_two min_two max_three min_three max_four min_four cell_setCell_isSome
set_option linter.unusedVariables false
set_option linter.unusedSimpArgs false
def epitomelaw11_OverOne.Pure : Prop := ∀ (l0 : List (S32)) (l1_0 : List (S32)) (l1_1 : List (S32)) (a2 : Int), (l0.length ≤ maxLen ∧ ∀ x_ ∈ l0, V32 x_) → (l1_0.length ≤ maxLen ∧ ∀ x_ ∈ l1_0, V32 x_) → (l1_1.length ≤ maxLen ∧ ∀ x_ ∈ l1_1, V32 x_) → (Lit.int .u8 a2).wf = true → ∃ k, epitomelaw11_OverOne.f k l0 l1_0 l1_1 a2 = some true
end Go.Proofs.YtnfaahacakliiaaDoor.F
end
section
namespace Go.Proofs.YtnfaahacakliiaaDoor.F
open Go.RowKit Go.Proofs.YtnfaahacakliiaaDoorW.PrintWords Go.Proofs.YtnfaahacakliiaaDoorW.PrintLast Go.Proofs.YtnfaahacakliiaaDoorW.PrintMore
set_option linter.unusedVariables false
set_option linter.unusedSimpArgs false
theorem Pure.OverOne : epitomelaw11_OverOne.Pure := by
  intro l0 l1 l2 a h0 h1 h2 h3
  apply Ev.rounds
  obtain ⟨n, hn, en⟩ := rem64 a h3
  obtain ⟨us, hf0, f0⟩ := fitB l0 h0.1 h0.2 n (by omega)
  obtain ⟨vs, hf1, f1⟩ := fitB l1 h1.1 h1.2 n (by omega)
  have c0 := f0.cout
  have c1 := f1.cout
  obtain ⟨ws, hf2, f2⟩ := fitB l2 h2.1 h2.2 _ (show (vs.map Un.cout).sum ≤ 1048576 by omega)
  have c2 := f2.cout
  have i0 := f0.cinU
  have i1 := f1.cinU
  have i2 := f2.cinU
  have o0 := f0.coutU
  have o1 := f1.coutU
  have o2 := f2.coutU
  have n0 := f0.cin
  have n1 := f1.cin
  have n2 := f2.cin
  have p0 := puts_le (exU us)
  have hc1 : cinU (exU us) = cinU (exU vs) := by omega
  have hc2 : coutU (exU vs) = cinU (exU ws) := by omega
  have uv := overOk f0.runes hc1 (by omega) (by omega)
  have vw := compOk (a := 0) (b := 0) f1.runes f2.runes hc2 (by omega) (by omega)
  have s1 := over_sizes (exU us) (exU vs) hc1
  have s2 := over_small hc1
  have s3 := comp_sizes (exU vs) (exU ws) hc2
  have uo := canon_out (overU (exU us) (exU vs))
  have ui := canon_in (overU (exU us) (exU vs))
  have vo := canon_out (compU (exU vs) (exU ws))
  have vi := canon_in (compU (exU vs) (exU ws))
  have e1 := over_is uv f2.ok (by omega) (by omega) (by omega)
  have e2 := over_is f0.ok vw (by omega) (by omega) (by omega)
  rw [ex_canon] at e1 e2
  have hc3 : cinU (overU (exU us) (exU vs)) = cinU (exU ws) := by omega
  have m0 := canon_length (overU (overU (exU us) (exU vs)) (exU ws))
  have m1 := length_two (overU (overU (exU us) (exU vs)) (exU ws))
  have s5 := over_sizes (overU (exU us) (exU vs)) (exU ws) hc3
  have s6 := over_small hc3
  have s7 := puts_le (overU (exU us) (exU vs))
  unfold epitomelaw11_OverOne.f
  rw [en]
  refine Ev.bind shown11 (Ev.bind hf0 (Ev.bind hf1 (Ev.bind (opOut_is f1.ok) (Ev.bind hf2 ?_))))
  refine Ev.bind (compose_is f1.ok f2.ok (by omega) (by omega) (by omega)) (Ev.bind (over_is f0.ok f1.ok (by omega) (by omega) (by omega)) ?_)
  refine Ev.bind e1 (Ev.bind e2 ?_)
  refine ev_if_pos rfl (ev_if_pos rfl (ev_if_pos rfl (ev_if_pos rfl (ev_if_pos rfl ?_))))
  refine Ev.bind (same_is _ _ (by rw [List.length_map]; omega)) ?_
  rw [over_comp _ _ _ _ (Nat.le_refl _) hc1 hc2]
  simpa using Ev.now true
end Go.Proofs.YtnfaahacakliiaaDoor.F
end
section
namespace Go.Proofs.YtnfaahacakliiaaDoor.overOne
open Go.ChangeShapes Go.WideShapes Go.ChangeAt Go.RowKit Go.Proofs.YtnfaahacakliiaaDoor.F
open Go.Proofs.YtnfaahacakliiaaDoorW.PrintWords
open Go.ChangeMaps (open_string shut_string)
set_option linter.unusedVariables false
theorem own : ownKnob Tryd.prog.godebug = none := by kernel_rfl
theorem laidOut : laidOutB Tryd.prog = true := by kernel_rfl
theorem laid_met (os : Os) (args : Array Value) : laidMetH Tryd.prog Rows.overOneRow.laid ((laidWorld os).forCall (fun _ _ => 0) ⟨#[], args, []⟩).memory :=
  (LaidIn.of_run (l := Rows.overOneRow.laid) [2, 0, 1] 8 (by kernel_rfl) (by kernel_rfl) (by kernel_rfl) (by kernel_rfl)).met
set_option maxRecDepth 100000 in
theorem lifted (os : Os) (started : os.Started) (H : Type) (enc : TypeId × Value → H) :
    ReturnsInHanded {} Tryd.checked os 9 .any (fun w args => (Rows.overOneSpec.pre enc Tryd.prog Tryd.f9 [] false w args ∧ laidMetH Tryd.prog Rows.overOneRow.laid w) ∧ sizedMet enc Tryd.prog Tryd.f9 (OpenSpec.ofChange Rows.overOneSpec) false w args) (Rows.overOneSpec.post enc Tryd.prog Tryd.f9 false true false false) := by
  refine returnsInHanded_of_change_and (C := Tryd.checked) (X := (fun w _ => laidMetH Tryd.prog Rows.overOneRow.laid w)) (fun _ _ _ hh h => h.of_heap hh) own started (by kernel_rfl) Tryd.func9
    (ChangeSpec.witness_at (enc := enc) (C := Tryd.checked) (os := os) (X := (fun w _ => laidMetH Tryd.prog Rows.overOneRow.laid w)) false (laidWorld os) #[.slice none 0 0, .agg #[.slice none 0 0, .slice none 0 0], .int .u8 0] 8 rfl (by kernel_rfl) (by kernel_rfl) (by kernel_rfl) (by kernel_rfl) (by kernel_rfl) (laid_met os _)) ?_
  intro W base args ds gs before hval0 hW _ _ hL _
  have hG : Glob W := glob_of_reads (Lib.laidMet.reads hL (.tail _ (.tail _ (.head _)))) (Lib.laidMet.reads hL (.head _)) (Lib.laidMet.reads hL (.tail _ (.head _)))
  have hval : ∀ (j : Nat) t v, Tryd.f9.params[j]? = some t → args[j]? = some v → Value.okWide Tryd.prog W .any base t v := hval0
  have hW' := hW
  obtain ⟨p, q, hA0, hV, rfl, hfz, hnd⟩ := hW
  have hA : DataW.TrodAll enc Tryd.prog W 0 (fun _ => true) true Tryd.f9.params.toList args.toList ds p := hA0
  rw [Tryd.params9] at hA hval
  obtain ⟨v0, vs0, d0, ds0, p0, q0, hargs, rfl, rfl, h0, r0⟩ := trodAll_cons hA
  obtain ⟨v1, vs1, d1, ds1, p1, q1, rfl, rfl, rfl, h1, r1⟩ := trodAll_cons r0
  obtain ⟨v2, vs2, d2, ds2, p2, q2, rfl, rfl, rfl, h2, r2⟩ := trodAll_cons r1
  obtain ⟨rfl, rfl, rfl⟩ := trodAll_nil r2
  obtain rfl : args = #[v0, v1, v2] := by cases args; simp_all
  obtain ⟨rfl, rfl⟩ := trodVars_none hV
  obtain ⟨A0, n0, c0, rfl⟩ := okWide_slice Tryd.underlying22 (hval 0 22 v0 rfl rfl)
  have k0 := h0
  have lt0 : ∀ x ∈ p0, x.block < W.heap.size := by obtain ⟨m, hm⟩ := k0; exact DataW.trod_lt m _ _ _ hm
  obtain ⟨l0, z0, hv0⟩ : ∃ l, (Kd.slice 32 k32).K W l [Value.slice A0 n0 c0] ∧ (fun v_ => (v_.length ≤ maxLen ∧ ∀ x_ ∈ v_, V32 x_)) l := by
    obtain ⟨fuel, hf⟩ := h0
    exact (opens_slice Tryd.underlying22 (by kernel_rfl) opens32) enc W _ _ _ _ _ _ hf
  obtain ⟨A_, c_, e, hc0, hr0⟩ := z0
  simp only [List.cons.injEq, Value.slice.injEq, and_true] at e
  obtain ⟨rfl, rfl, rfl⟩ := e
  obtain ⟨cs1, rfl⟩ := agg_array Tryd.underlying51 (hval 1 51 v1 rfl rfl)
  have k1 := h1
  have lt1 : ∀ x ∈ p1, x.block < W.heap.size := by obtain ⟨m, hm⟩ := k1; exact DataW.trod_lt m _ _ _ hm
  obtain ⟨x1, z1, hv1⟩ : ∃ x, k51.K W x cs1.toList ∧ V51 x := by
    obtain ⟨fuel, hf⟩ := h1
    exact opens51 enc W _ _ _ _ _ _ hf
  obtain ⟨c1_0, w1_0, e1_0, h1_0, h1_1⟩ := z1
  obtain ⟨A1_0, c_1_0, ec1_0, hc1_0, hr1_0⟩ := h1_0
  obtain ⟨A1_1, c_1_1, ec1_1, hc1_1, hr1_1⟩ := h1_1
  obtain rfl : cs1 = #[.slice A1_0 x1.f0.length c_1_0, .slice A1_1 x1.f1.length c_1_1] := by
    apply arr_of (l := [.slice A1_0 x1.f0.length c_1_0, .slice A1_1 x1.f1.length c_1_1])
    rw [e1_0, ec1_0, ec1_1]
    rfl
  obtain ⟨b1_0, b1_1⟩ := x1
  obtain ⟨a2, rfl, rfl, rfl, hv2⟩ := open_int Tryd.underlying5 (hval 2 5 v2 rfl rfl) h2
  obtain ⟨k, h⟩ := Pure.OverOne l0 b1_0 b1_1 a2 hv0 (by exact hv1.1) (by exact hv1.2) hv2
  refine (epitomelaw11_OverOne.calls k _ _ l0 _ _ b1_0 _ _ b1_1 a2 true W hG hr0 hc0 hr1_0 hc1_0 hr1_1 hc1_1 h).mono ?_
  rintro e W' ⟨rfl, hd⟩
  have bel : Below W.heap.size W W' := hd
  exact ⟨_, rfl, _, _, _, [], _, [], hW', trodAll_mk1 (shut_bool Tryd.underlying4 _), (trodAll_cons_mk (Below.trod laidOut (by kernel_rfl) (of_decide_eq_true (by kernel_rfl)) k0 bel lt0) (trodAll_cons_mk (Below.trod laidOut (by kernel_rfl) (of_decide_eq_true (by kernel_rfl)) k1 bel lt1) (trodAll_cons_mk (shut_int Tryd.underlying5 hv2) trodAll_mk0))), rfl, bel.frame _, fun h => by cases h⟩
theorem over : Rows.overOneRow.holds Tryd.pinned (OpenSpec.ofChange Rows.overOneSpec) :=
  OpenClaim.holds_of_wide 9 Tryd.f9 rfl rfl rfl rfl rfl rfl rfl ⟨rfl, rfl, rfl, rfl, rfl⟩ rfl rfl rfl rfl rfl (by kernel_rfl) Tryd.func9 (by kernel_rfl)
    (of_decide_eq_true (by kernel_rfl)) (by unfold Func.isWrapper; first | (rw [if_pos (by decide +kernel)]; kernel_rfl) | (rw [if_neg (by decide +kernel)]; exact ⟨rfl, rfl⟩))
    (fun os started H enc _ => lifted os started H enc)
theorem card : Claim7.holds Tryd.pinned (.plain (OpenSpec.ofChange Rows.overOneSpec)) Rows.overOneCard :=
  Claim7.holds_tied_plain_at .later [] [.data, .data, .pinned] true (true, "5629122fc7e22ec38083d154da1d52d5b6c509a811ad847a0e4b167bf671c9f1") false
    over (fun _ h => by cases h) (by kernel_rfl) (fun _ h => by cases h) overOne_row_tie rfl ⟨rfl, rfl⟩ (by kernel_rfl) rfl
    (fun f fn hf hfn => by
      obtain rfl : f = 9 := Option.some.inj ((show Tryd.prog.funcNamed "epitome/epitomelaw11.OverOne" = some 9 by kernel_rfl).symm.trans hf) |>.symm
      obtain rfl : fn = Tryd.f9 := (Option.some.inj (Tryd.func9.symm.trans hfn)).symm
      exact ⟨by kernel_rfl, fun j t ht => by
        rw [Tryd.params9] at ht
        match j, ht with
        | 0, ht =>
          obtain rfl : t = 22 := by simpa using ht.symm
          exact (show Tryd.prog.wantsStandIn 22 = false by kernel_rfl)
        | 1, ht =>
          obtain rfl : t = 51 := by simpa using ht.symm
          exact (show Tryd.prog.wantsStandIn 51 = false by kernel_rfl)
        | 2, ht =>
          obtain rfl : t = 5 := by simpa using ht.symm
          exact (show Tryd.prog.wantsStandIn 5 = false by kernel_rfl)
        | j + 3, ht => simp at ht⟩)
    (by kernel_rfl)
theorem proved : Rows.OverOneCardSaid := card
end Go.Proofs.YtnfaahacakliiaaDoor.overOne
namespace Go.Proofs.YtnfaahacakliiaaDoor
theorem overOne_holds : Rows.OverOneCardSaid := overOne.proved
#print axioms overOne_holds
end Go.Proofs.YtnfaahacakliiaaDoor
end
