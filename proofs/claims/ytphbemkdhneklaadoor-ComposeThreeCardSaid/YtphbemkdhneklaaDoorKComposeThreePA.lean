import Derived.Test.YtphbemkdhneklaaDoorKCTE
import Derived.Test.YtphbemkdhneklaaDoorKCTPA
import Derived.Below
import Derived.Deep.Draws
import Derived.Deep.AppendLies
import Derived.Maps.AppendAt
import Derived.OwnWalk
import Derived.Laws.BytesArg
import Derived.Laws.MakeOwn
import Derived.Laws.OwnMore
import Derived.Deep.OwnRows
import Derived.Tactics
import Derived.Lib.ConvBytes
import Derived.Laws.Slices
import Derived.WalkKit
import Derived.KernelRfl
import Derived.RowKit3
import Derived.Deep.LoopGhost
import Derived.Deep.QuietTactic
import Derived.BigQuiet
import Derived.WideLaws
import Derived.Deep.DeepCutAuto
import Derived.Deep.CutBlock
import Derived.Deep.RegionHeld3
import Derived.Laws.Rows
import Derived.Lib.AppendStr
import Derived.ArgAppend
import Derived.Laws.IdiomCopy
import Derived.RowKit
import Derived.OrdersHeld
import Derived.Laws.BitsLemmas
import Derived.Laws.StructEq
import Derived.Test.YtphbemkdhneklaaDoorProg
import Derived.Handy
import Derived.Shelf.Unicode.DecodeSlow
import Derived.Ground.NamesProg
import Derived.Shelf.Unicode.ValidAny
import Derived.Laws.RangeString
import Derived.Laws.RangeAny
import Derived.Lib.RuneCount
import Derived.Laws.IdiomStrings
import Derived.Laws.Cover4
import Derived.Great.BuildSlice
import Derived.ProofKit
import Derived.OpenShut
import Derived.ShutString
import Derived.ChangeOld
import Derived.SizedLaws
import Derived.Lib.ValidLaws
import Derived.Test.YtphbemkdhneklaaDoorRows
import Derived.Lib.LaidU8T
import Derived.Lib.LaidIn
import Derived.LaidLaws
import Derived.Test.YtphbemkdhneklaaDoorTie
import Derived.Test.YtphbemkdhneklaaDoorCards
import Derived.Carry
import Derived.ChangeSame
import Derived.ChangeVars
import Derived.JoinedOf
import Derived.SevenTiedAt
section
namespace Go.Proofs.YtphbemkdhneklaaDoor.F
open Go.RowKit Go.Proofs.YtphbemkdhneklaaDoorW.PrintWords Go.Proofs.YtphbemkdhneklaaDoorW.PrintLast Go.Proofs.YtphbemkdhneklaaDoorW.PrintMore
attribute [local go_sem] max2_int min2_int max_two min_two max_three min_three max_four min_four cell_setCell_isSome
set_option linter.unusedVariables false
set_option linter.unusedSimpArgs false
def epitomelaw09_ComposeThree.Pure : Prop := ∀ (l0_0 : List (S51)) (l0_1 : List (S51)) (l0_2 : List (S51)) (a1 : Int), (l0_0.length ≤ maxLen ∧ ∀ x_ ∈ l0_0, V51 x_) → (l0_1.length ≤ maxLen ∧ ∀ x_ ∈ l0_1, V51 x_) → (l0_2.length ≤ maxLen ∧ ∀ x_ ∈ l0_2, V51 x_) → (Lit.int .u8 a1).wf = true → ∃ k, epitomelaw09_ComposeThree.f k l0_0 l0_1 l0_2 a1 = some true
end Go.Proofs.YtphbemkdhneklaaDoor.F
end
section
namespace Go.Proofs.YtphbemkdhneklaaDoor.F
open Go.RowKit Go.Proofs.YtphbemkdhneklaaDoorW.PrintWords Go.Proofs.YtphbemkdhneklaaDoorW.PrintLast Go.Proofs.YtphbemkdhneklaaDoorW.PrintMore
set_option linter.unusedVariables false
set_option linter.unusedSimpArgs false
theorem Pure.ComposeThree : epitomelaw09_ComposeThree.Pure := by
  intro l0 l1 l2 a h0 h1 h2 h3
  apply Ev.rounds
  obtain ⟨n, hn, en⟩ := rem64 a h3
  obtain ⟨us, hf0, f0⟩ := fitB l0 h0.1 h0.2 n (by omega)
  have c0 := f0.cout
  obtain ⟨vs, hf1, f1⟩ := fitB l1 h1.1 h1.2 _ (show (us.map Un.cout).sum ≤ 1048576 by omega)
  have c1 := f1.cout
  obtain ⟨ws, hf2, f2⟩ := fitB l2 h2.1 h2.2 _ (show (vs.map Un.cout).sum ≤ 1048576 by omega)
  have c2 := f2.cout
  have i0 := f0.cinU
  have i1 := f1.cinU
  have i2 := f2.cinU
  have o0 := f0.coutU
  have o1 := f1.coutU
  have o2 := f2.coutU
  have n0 := f0.cin
  have n1 := f1.cin
  have n2 := f2.cin
  have uv := compOk (a := 0) (b := 0) f0.runes f1.runes (by omega) (by omega) (by omega)
  have vw := compOk (a := 0) (b := 0) f1.runes f2.runes (by omega) (by omega) (by omega)
  obtain ⟨s1, s2⟩ := comp_sizes (exU us) (exU vs) (by omega)
  obtain ⟨s3, s4⟩ := comp_sizes (exU vs) (exU ws) (by omega)
  have uo := canon_out (compU (exU us) (exU vs))
  have ui := canon_in (compU (exU us) (exU vs))
  have vo := canon_out (compU (exU vs) (exU ws))
  have vi := canon_in (compU (exU vs) (exU ws))
  have e1 := compose_is uv f2.ok (by omega) (by omega) (by omega)
  have e2 := compose_is f0.ok vw (by omega) (by omega) (by omega)
  rw [ex_canon] at e1 e2
  have m0 := canon_length (compU (compU (exU us) (exU vs)) (exU ws))
  have m1 := length_two (compU (compU (exU us) (exU vs)) (exU ws))
  obtain ⟨s5, s6⟩ := comp_sizes (compU (exU us) (exU vs)) (exU ws) (by omega)
  unfold epitomelaw09_ComposeThree.f
  rw [en]
  refine Ev.bind shown09 (Ev.bind hf0 (Ev.bind (opOut_is f0.ok) (Ev.bind hf1 (Ev.bind (opOut_is f1.ok) (Ev.bind hf2 ?_)))))
  refine Ev.bind (compose_is f0.ok f1.ok (by omega) (by omega) (by omega)) (Ev.bind (compose_is f1.ok f2.ok (by omega) (by omega) (by omega)) ?_)
  refine Ev.bind e1 (Ev.bind e2 ?_)
  refine ev_if_pos rfl (ev_if_pos rfl (ev_if_pos rfl (ev_if_pos rfl (ev_if_pos rfl ?_))))
  refine Ev.bind (same_is _ _ (by rw [List.length_map]; omega)) ?_
  rw [comp_assoc _ _ _ _ (Nat.le_refl _) (by omega) (by omega)]
  simpa using Ev.now true
end Go.Proofs.YtphbemkdhneklaaDoor.F
end
section
namespace Go.Proofs.YtphbemkdhneklaaDoor.composeThree
open Go.ChangeShapes Go.WideShapes Go.ChangeAt Go.RowKit Go.Proofs.YtphbemkdhneklaaDoor.F
open Go.Proofs.YtphbemkdhneklaaDoorW.PrintWords
open Go.ChangeMaps (open_string shut_string)
set_option linter.unusedVariables false
theorem own : ownKnob Tryd.prog.godebug = none := by kernel_rfl
theorem laidOut : laidOutB Tryd.prog = true := by kernel_rfl
theorem laid_met (os : Os) (args : Array Value) : laidMetH Tryd.prog Rows.composeThreeRow.laid ((laidWorld os).forCall (fun _ _ => 0) ⟨#[], args, []⟩).memory :=
  (LaidIn.of_run (l := Rows.composeThreeRow.laid) [2, 0, 1] 8 (by kernel_rfl) (by kernel_rfl) (by kernel_rfl) (by kernel_rfl)).met
set_option maxRecDepth 100000 in
theorem lifted (os : Os) (started : os.Started) (H : Type) (enc : TypeId × Value → H) :
    ReturnsInHanded {} Tryd.checked os 9 .any (fun w args => (Rows.composeThreeSpec.pre enc Tryd.prog Tryd.f9 [] false w args ∧ laidMetH Tryd.prog Rows.composeThreeRow.laid w) ∧ sizedMet enc Tryd.prog Tryd.f9 (OpenSpec.ofChange Rows.composeThreeSpec) false w args) (Rows.composeThreeSpec.post enc Tryd.prog Tryd.f9 false true false false) := by
  refine returnsInHanded_of_change_and (C := Tryd.checked) (X := (fun w _ => laidMetH Tryd.prog Rows.composeThreeRow.laid w)) (fun _ _ _ hh h => h.of_heap hh) own started (by kernel_rfl) Tryd.func9
    (ChangeSpec.witness_at (enc := enc) (C := Tryd.checked) (os := os) (X := (fun w _ => laidMetH Tryd.prog Rows.composeThreeRow.laid w)) false (laidWorld os) #[.agg #[.slice none 0 0, .slice none 0 0, .slice none 0 0], .int .u8 0] 8 rfl (by kernel_rfl) (by kernel_rfl) (by kernel_rfl) (by kernel_rfl) (by kernel_rfl) (laid_met os _)) ?_
  intro W base args ds gs before hval0 hW _ _ hL _
  have hG : Glob W := glob_of_reads (Lib.laidMet.reads hL (.tail _ (.tail _ (.head _)))) (Lib.laidMet.reads hL (.head _)) (Lib.laidMet.reads hL (.tail _ (.head _)))
  have hval : ∀ (j : Nat) t v, Tryd.f9.params[j]? = some t → args[j]? = some v → Value.okWide Tryd.prog W .any base t v := hval0
  have hW' := hW
  obtain ⟨p, q, hA0, hV, rfl, hfz, hnd⟩ := hW
  have hA : DataW.TrodAll enc Tryd.prog W 0 (fun _ => true) true Tryd.f9.params.toList args.toList ds p := hA0
  rw [Tryd.params9] at hA hval
  obtain ⟨v0, vs0, d0, ds0, p0, q0, hargs, rfl, rfl, h0, r0⟩ := trodAll_cons hA
  obtain ⟨v1, vs1, d1, ds1, p1, q1, rfl, rfl, rfl, h1, r1⟩ := trodAll_cons r0
  obtain ⟨rfl, rfl, rfl⟩ := trodAll_nil r1
  obtain rfl : args = #[v0, v1] := by cases args; simp_all
  obtain ⟨rfl, rfl⟩ := trodVars_none hV
  obtain ⟨cs0, rfl⟩ := agg_array Tryd.underlying47 (hval 0 47 v0 rfl rfl)
  have k0 := h0
  have lt0 : ∀ x ∈ p0, x.block < W.heap.size := by obtain ⟨m, hm⟩ := k0; exact DataW.trod_lt m _ _ _ hm
  obtain ⟨x0, z0, hv0⟩ : ∃ x, k47.K W x cs0.toList ∧ V47 x := by
    obtain ⟨fuel, hf⟩ := h0
    exact opens47 enc W _ _ _ _ _ _ hf
  obtain ⟨c0_0, w0_0, e0_0, h0_0, ⟨c0_1, w0_1, e0_1, h0_1, h0_2⟩⟩ := z0
  obtain ⟨A0_0, c_0_0, ec0_0, hc0_0, hr0_0⟩ := h0_0
  obtain ⟨A0_1, c_0_1, ec0_1, hc0_1, hr0_1⟩ := h0_1
  obtain ⟨A0_2, c_0_2, ec0_2, hc0_2, hr0_2⟩ := h0_2
  obtain rfl : cs0 = #[.slice A0_0 x0.f0.length c_0_0, .slice A0_1 x0.f1.length c_0_1, .slice A0_2 x0.f2.length c_0_2] := by
    apply arr_of (l := [.slice A0_0 x0.f0.length c_0_0, .slice A0_1 x0.f1.length c_0_1, .slice A0_2 x0.f2.length c_0_2])
    rw [e0_0, ec0_0, e0_1, ec0_1, ec0_2]
    rfl
  obtain ⟨b0_0, b0_1, b0_2⟩ := x0
  obtain ⟨a1, rfl, rfl, rfl, hv1⟩ := open_int Tryd.underlying5 (hval 1 5 v1 rfl rfl) h1
  obtain ⟨k, h⟩ := Pure.ComposeThree b0_0 b0_1 b0_2 a1 (by exact hv0.1) (by exact hv0.2.1) (by exact hv0.2.2) hv1
  refine (epitomelaw09_ComposeThree.calls k _ _ b0_0 _ _ b0_1 _ _ b0_2 a1 true W hG hr0_0 hc0_0 hr0_1 hc0_1 hr0_2 hc0_2 h).mono ?_
  rintro e W' ⟨rfl, hd⟩
  have bel : Below W.heap.size W W' := hd
  exact ⟨_, rfl, _, _, _, [], _, [], hW', trodAll_mk1 (shut_bool Tryd.underlying4 _), (trodAll_cons_mk (Below.trod laidOut (by kernel_rfl) (of_decide_eq_true (by kernel_rfl)) k0 bel lt0) (trodAll_cons_mk (shut_int Tryd.underlying5 hv1) trodAll_mk0)), rfl, bel.frame _, fun h => by cases h⟩
theorem over : Rows.composeThreeRow.holds Tryd.pinned (OpenSpec.ofChange Rows.composeThreeSpec) :=
  OpenClaim.holds_of_wide 9 Tryd.f9 rfl rfl rfl rfl rfl rfl rfl ⟨rfl, rfl, rfl, rfl, rfl⟩ rfl rfl rfl rfl rfl (by kernel_rfl) Tryd.func9 (by kernel_rfl)
    (of_decide_eq_true (by kernel_rfl)) (by unfold Func.isWrapper; first | (rw [if_pos (by decide +kernel)]; kernel_rfl) | (rw [if_neg (by decide +kernel)]; exact ⟨rfl, rfl⟩))
    (fun os started H enc _ => lifted os started H enc)
theorem card : Claim7.holds Tryd.pinned (.plain (OpenSpec.ofChange Rows.composeThreeSpec)) Rows.composeThreeCard :=
  Claim7.holds_tied_plain_at .later [] [.data, .data, .pinned] true (true, "b59fba76812983a2edbfeb7dc69721ef72231d0e5408923366ca0978bc32635f") false
    over (fun _ h => by cases h) (by kernel_rfl) (fun _ h => by cases h) composeThree_row_tie rfl ⟨rfl, rfl⟩ (by kernel_rfl) rfl
    (fun f fn hf hfn => by
      obtain rfl : f = 9 := Option.some.inj ((show Tryd.prog.funcNamed "epitome/epitomelaw09.ComposeThree" = some 9 by kernel_rfl).symm.trans hf) |>.symm
      obtain rfl : fn = Tryd.f9 := (Option.some.inj (Tryd.func9.symm.trans hfn)).symm
      exact ⟨by kernel_rfl, fun j t ht => by
        rw [Tryd.params9] at ht
        match j, ht with
        | 0, ht =>
          obtain rfl : t = 47 := by simpa using ht.symm
          exact (show Tryd.prog.wantsStandIn 47 = false by kernel_rfl)
        | 1, ht =>
          obtain rfl : t = 5 := by simpa using ht.symm
          exact (show Tryd.prog.wantsStandIn 5 = false by kernel_rfl)
        | j + 2, ht => simp at ht⟩)
    (by kernel_rfl)
theorem proved : Rows.ComposeThreeCardSaid := card
end Go.Proofs.YtphbemkdhneklaaDoor.composeThree
namespace Go.Proofs.YtphbemkdhneklaaDoor
theorem composeThree_holds : Rows.ComposeThreeCardSaid := composeThree.proved
#print axioms composeThree_holds
end Go.Proofs.YtphbemkdhneklaaDoor
end
