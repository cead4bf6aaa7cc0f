import Derived.Test.YtphbemkdhneklaaDoorKComposeKeepsB
import Derived.Test.YtphbemkdhneklaaDoorKCKPA
import Derived.Below
import Derived.Deep.Draws
import Derived.Deep.AppendLies
import Derived.Maps.AppendAt
import Derived.OwnWalk
import Derived.Laws.BytesArg
import Derived.Laws.MakeOwn
import Derived.Laws.OwnMore
import Derived.Deep.OwnRows
import Derived.Tactics
import Derived.Lib.ConvBytes
import Derived.Laws.Slices
import Derived.WalkKit
import Derived.KernelRfl
import Derived.RowKit3
import Derived.Deep.LoopGhost
import Derived.Deep.QuietTactic
import Derived.BigQuiet
import Derived.WideLaws
import Derived.Deep.DeepCutAuto
import Derived.Deep.CutBlock
import Derived.Deep.RegionHeld3
import Derived.Laws.Rows
import Derived.Lib.AppendStr
import Derived.ArgAppend
import Derived.Laws.IdiomCopy
import Derived.RowKit
import Derived.OrdersHeld
import Derived.Laws.BitsLemmas
import Derived.Laws.StructEq
import Derived.Test.YtphbemkdhneklaaDoorProg
import Derived.Handy
import Derived.Shelf.Unicode.DecodeSlow
import Derived.Ground.NamesProg
import Derived.Shelf.Unicode.ValidAny
import Derived.Laws.IdiomStrings
import Derived.Laws.Cover4
import Derived.Laws.RangeString
import Derived.Laws.RangeAny
import Derived.Lib.RuneCount
import Derived.Great.BuildSlice
import Derived.ProofKit
import Derived.OpenShut
import Derived.ShutString
import Derived.ChangeOld
import Derived.SizedLaws
import Derived.Lib.ValidLaws
import Derived.Test.YtphbemkdhneklaaDoorRows
import Derived.Lib.LaidU8T
import Derived.Lib.LaidIn
import Derived.LaidLaws
import Derived.Test.YtphbemkdhneklaaDoorTie
import Derived.Test.YtphbemkdhneklaaDoorCards
import Derived.Carry
import Derived.ChangeSame
import Derived.ChangeVars
import Derived.JoinedOf
import Derived.SevenTiedAt
section
namespace Go.Proofs.YtphbemkdhneklaaDoor.F
open Go.RowKit Go.Proofs.YtphbemkdhneklaaDoorW.PrintWords Go.Proofs.YtphbemkdhneklaaDoorW.PrintLast Go.Proofs.YtphbemkdhneklaaDoorW.PrintMore
attribute [local go_sem] max2_int min2_int max_two min_two max_three min_three max_four min_four cell_setCell_isSome
set_option linter.unusedVariables false
set_option linter.unusedSimpArgs false
def epitomelaw09_ComposeKeeps.Pure : Prop := ∀ (l0 : List (S51)) (a1 : Int) (a2 : Int), (l0.length ≤ maxLen ∧ ∀ x_ ∈ l0, V51 x_) → (Lit.int .u8 a1).wf = true → (Lit.int .u8 a2).wf = true → ∃ k, epitomelaw09_ComposeKeeps.f k l0 a1 a2 = some true
end Go.Proofs.YtphbemkdhneklaaDoor.F
end
section
namespace Go.Proofs.YtphbemkdhneklaaDoor.F
open Go.RowKit Go.Proofs.YtphbemkdhneklaaDoorW.PrintWords Go.Proofs.YtphbemkdhneklaaDoorW.PrintLast Go.Proofs.YtphbemkdhneklaaDoorW.PrintMore
set_option linter.unusedVariables false
set_option linter.unusedSimpArgs false
def keepU (n : Nat) : List Un := if n = 0 then [] else [.keep n]
theorem keepU_ex (n : Nat) : exU (keepU n) = List.replicate n .k := by
  unfold keepU
  split
  · next h => subst h; rfl
  · simp [exU, Un.ex]
theorem keepU_in (n : Nat) : ((keepU n).map Un.cin).sum = n := by
  unfold keepU
  split
  · next h => subst h; rfl
  · simp [Un.cin]
theorem keepU_out (n : Nat) : ((keepU n).map Un.cout).sum = n := by
  unfold keepU
  split
  · next h => subst h; rfl
  · simp [Un.cout]
theorem keepU_ok (n : Nat) (h : n ≤ 1048576) : Ok (keepU n) := by
  refine ⟨?_, ?_, by rw [keepU_in]; exact h, by rw [keepU_out]; omega⟩
  · intro u hu
    unfold keepU at hu
    split at hu
    · cases hu
    · simp at hu; subst hu; trivial
  · unfold keepU
    split <;> simp
theorem opKeep_is (n : Nat) (h : n ≤ 1048576) : Ev (fun k => op_Keep.f k (n : Int)) ((keepU n).map Un.sp, 0) := by
  unfold op_Keep.f
  refine ev_if_neg (by omega) ?_
  rw [decide_eq_false (by omega)]
  refine Ev.step (f := fun _ => some ((keepU n).map Un.sp, 0)) (fun k => ?_) (Ev.now _)
  rw [op_Keep.j0, if_neg (by simp)]
  unfold keepU
  by_cases h0 : n = 0
  · subst h0
    rfl
  · rw [if_neg (by omega), if_neg h0]
    rfl
end Go.Proofs.YtphbemkdhneklaaDoor.F
end
section
namespace Go.Proofs.YtphbemkdhneklaaDoor.F
open Go.RowKit Go.Proofs.YtphbemkdhneklaaDoorW.PrintWords Go.Proofs.YtphbemkdhneklaaDoorW.PrintLast Go.Proofs.YtphbemkdhneklaaDoorW.PrintMore
set_option linter.unusedVariables false
set_option linter.unusedSimpArgs false
theorem Pure.ComposeKeeps : epitomelaw09_ComposeKeeps.Pure := by
  intro l0 a1 a2 h0 h1 h2
  apply Ev.rounds
  obtain ⟨n, hn, en⟩ := rem64 a1 h1
  obtain ⟨us, hf, fu⟩ := fitB l0 h0.1 h0.2 n (by omega)
  have b2 := wf_u8 h2
  obtain ⟨m, rfl⟩ := Int.eq_ofNat_of_zero_le b2.1
  have ew : wrap64 (m : Int) = (m : Int) := w64 (by omega) (by omega)
  have c0 := fu.cout
  have n0 := fu.cin
  have i0 := fu.cinU
  have o0 := fu.coutU
  obtain ⟨o, ho⟩ : ∃ o, (us.map Un.cout).sum = o := ⟨_, rfl⟩
  have kin := keepU_in
  have kout := keepU_out
  have e1 := compose_is (keepU_ok n (by omega)) fu.ok (by rw [kout]; omega) (by omega) (by rw [kout]; omega)
  have e2 := compose_is fu.ok (keepU_ok o (by omega)) (by omega) (by rw [kout]; omega) (by rw [kin]; omega)
  rw [keepU_ex, show List.replicate n U.k = List.replicate (cinU (exU us)) .k by rw [i0], comp_keep_left] at e1
  rw [keepU_ex, show List.replicate o U.k = List.replicate (coutU (exU us)) .k by rw [o0, ho], comp_keep_right] at e2
  have o1 := opOut_is fu.ok
  have i1 := opIn_is fu.ok
  rw [ho] at o1
  rw [n0] at i1
  have m0 := canon_length (exU us)
  have m1 := length_two (exU us)
  have sm := same_is ((canon (exU us)).map Un.sp) ((canon (exU us)).map Un.sp) (by rw [List.length_map]; omega)
  rw [decide_eq_true rfl] at sm
  unfold epitomelaw09_ComposeKeeps.f
  rw [en, ew]
  refine Ev.bind shown09 (Ev.bind hf (Ev.bind i1 (Ev.bind (opKeep_is n (by omega)) (Ev.bind o1 (Ev.bind (opKeep_is o (by omega)) ?_)))))
  refine Ev.bind e1 (Ev.bind e2 (Ev.bind (opKeep_is m (by omega)) ?_))
  by_cases hm : m = o
  · subst hm
    refine Ev.bind e2 (Ev.bind o1 ?_)
    refine ev_if_pos rfl (ev_if_pos rfl (ev_if_pos rfl (ev_if_pos rfl (ev_if_pos rfl (ev_if_pos rfl ?_)))))
    refine Ev.bind (normalOk_is fu.ok) (Ev.bind sm (ev_if_pos rfl ?_))
    refine Ev.bind (normalOk_is fu.ok) (Ev.bind sm (ev_if_pos rfl ?_))
    rw [beq_self_eq_true, beq_self_eq_true]
    exact ev_if_pos rfl (ev_if_pos rfl (Ev.now _))
  · have e3 := composeOdd_is fu.ok (keepU_ok m (by omega)) (by rw [kin]; omega)
    refine Ev.bind e3 (Ev.bind o1 ?_)
    refine ev_if_pos rfl (ev_if_pos rfl (ev_if_pos rfl (ev_if_pos rfl (ev_if_pos rfl (ev_if_pos rfl ?_)))))
    refine Ev.bind (normalOk_is fu.ok) (Ev.bind sm (ev_if_pos rfl ?_))
    refine Ev.bind (normalOk_is fu.ok) (Ev.bind sm (ev_if_pos rfl ?_))
    rw [show ((m : Int) == (o : Int)) = false by simp; omega]
    exact ev_if_pos (by decide) (ev_if_neg (by omega) (ev_if_pos rfl (Ev.now _)))
end Go.Proofs.YtphbemkdhneklaaDoor.F
end
section
namespace Go.Proofs.YtphbemkdhneklaaDoor.composeKeeps
open Go.ChangeShapes Go.WideShapes Go.ChangeAt Go.RowKit Go.Proofs.YtphbemkdhneklaaDoor.F
open Go.Proofs.YtphbemkdhneklaaDoorW.PrintWords
open Go.ChangeMaps (open_string shut_string)
set_option linter.unusedVariables false
theorem own : ownKnob Tryd.prog.godebug = none := by kernel_rfl
theorem laidOut : laidOutB Tryd.prog = true := by kernel_rfl
theorem laid_met (os : Os) (args : Array Value) : laidMetH Tryd.prog Rows.composeKeepsRow.laid ((laidWorld os).forCall (fun _ _ => 0) ⟨#[], args, []⟩).memory :=
  (LaidIn.of_run (l := Rows.composeKeepsRow.laid) [2, 0, 1] 8 (by kernel_rfl) (by kernel_rfl) (by kernel_rfl) (by kernel_rfl)).met
set_option maxRecDepth 100000 in
theorem lifted (os : Os) (started : os.Started) (H : Type) (enc : TypeId × Value → H) :
    ReturnsInHanded {} Tryd.checked os 10 .any (fun w args => (Rows.composeKeepsSpec.pre enc Tryd.prog Tryd.f10 [] false w args ∧ laidMetH Tryd.prog Rows.composeKeepsRow.laid w) ∧ sizedMet enc Tryd.prog Tryd.f10 (OpenSpec.ofChange Rows.composeKeepsSpec) false w args) (Rows.composeKeepsSpec.post enc Tryd.prog Tryd.f10 false true false false) := by
  refine returnsInHanded_of_change_and (C := Tryd.checked) (X := (fun w _ => laidMetH Tryd.prog Rows.composeKeepsRow.laid w)) (fun _ _ _ hh h => h.of_heap hh) own started (by kernel_rfl) Tryd.func10
    (ChangeSpec.witness_at (enc := enc) (C := Tryd.checked) (os := os) (X := (fun w _ => laidMetH Tryd.prog Rows.composeKeepsRow.laid w)) false (laidWorld os) #[.slice none 0 0, .int .u8 0, .int .u8 0] 8 rfl (by kernel_rfl) (by kernel_rfl) (by kernel_rfl) (by kernel_rfl) (by kernel_rfl) (laid_met os _)) ?_
  intro W base args ds gs before hval0 hW _ _ hL _
  have hG : Glob W := glob_of_reads (Lib.laidMet.reads hL (.tail _ (.tail _ (.head _)))) (Lib.laidMet.reads hL (.head _)) (Lib.laidMet.reads hL (.tail _ (.head _)))
  have hval : ∀ (j : Nat) t v, Tryd.f10.params[j]? = some t → args[j]? = some v → Value.okWide Tryd.prog W .any base t v := hval0
  have hW' := hW
  obtain ⟨p, q, hA0, hV, rfl, hfz, hnd⟩ := hW
  have hA : DataW.TrodAll enc Tryd.prog W 0 (fun _ => true) true Tryd.f10.params.toList args.toList ds p := hA0
  rw [Tryd.params10] at hA hval
  obtain ⟨v0, vs0, d0, ds0, p0, q0, hargs, rfl, rfl, h0, r0⟩ := trodAll_cons hA
  obtain ⟨v1, vs1, d1, ds1, p1, q1, rfl, rfl, rfl, h1, r1⟩ := trodAll_cons r0
  obtain ⟨v2, vs2, d2, ds2, p2, q2, rfl, rfl, rfl, h2, r2⟩ := trodAll_cons r1
  obtain ⟨rfl, rfl, rfl⟩ := trodAll_nil r2
  obtain rfl : args = #[v0, v1, v2] := by cases args; simp_all
  obtain ⟨rfl, rfl⟩ := trodVars_none hV
  obtain ⟨A0, n0, c0, rfl⟩ := okWide_slice Tryd.underlying22 (hval 0 22 v0 rfl rfl)
  have k0 := h0
  have lt0 : ∀ x ∈ p0, x.block < W.heap.size := by obtain ⟨m, hm⟩ := k0; exact DataW.trod_lt m _ _ _ hm
  obtain ⟨l0, z0, hv0⟩ : ∃ l, (Kd.slice 51 k51).K W l [Value.slice A0 n0 c0] ∧ (fun v_ => (v_.length ≤ maxLen ∧ ∀ x_ ∈ v_, V51 x_)) l := by
    obtain ⟨fuel, hf⟩ := h0
    exact (opens_slice Tryd.underlying22 (by kernel_rfl) opens51) enc W _ _ _ _ _ _ hf
  obtain ⟨A_, c_, e, hc0, hr0⟩ := z0
  simp only [List.cons.injEq, Value.slice.injEq, and_true] at e
  obtain ⟨rfl, rfl, rfl⟩ := e
  obtain ⟨a1, rfl, rfl, rfl, hv1⟩ := open_int Tryd.underlying5 (hval 1 5 v1 rfl rfl) h1
  obtain ⟨a2, rfl, rfl, rfl, hv2⟩ := open_int Tryd.underlying5 (hval 2 5 v2 rfl rfl) h2
  obtain ⟨k, h⟩ := Pure.ComposeKeeps l0 a1 a2 hv0 hv1 hv2
  refine (epitomelaw09_ComposeKeeps.calls k _ _ l0 a1 a2 true W hG hr0 hc0 h).mono ?_
  rintro e W' ⟨rfl, hd⟩
  have bel : Below W.heap.size W W' := hd
  exact ⟨_, rfl, _, _, _, [], _, [], hW', trodAll_mk1 (shut_bool Tryd.underlying4 _), (trodAll_cons_mk (Below.trod laidOut (by kernel_rfl) (of_decide_eq_true (by kernel_rfl)) k0 bel lt0) (trodAll_cons_mk (shut_int Tryd.underlying5 hv1) (trodAll_cons_mk (shut_int Tryd.underlying5 hv2) trodAll_mk0))), rfl, bel.frame _, fun h => by cases h⟩
theorem over : Rows.composeKeepsRow.holds Tryd.pinned (OpenSpec.ofChange Rows.composeKeepsSpec) :=
  OpenClaim.holds_of_wide 10 Tryd.f10 rfl rfl rfl rfl rfl rfl rfl ⟨rfl, rfl, rfl, rfl, rfl⟩ rfl rfl rfl rfl rfl (by kernel_rfl) Tryd.func10 (by kernel_rfl)
    (of_decide_eq_true (by kernel_rfl)) (by unfold Func.isWrapper; first | (rw [if_pos (by decide +kernel)]; kernel_rfl) | (rw [if_neg (by decide +kernel)]; exact ⟨rfl, rfl⟩))
    (fun os started H enc _ => lifted os started H enc)
theorem card : Claim7.holds Tryd.pinned (.plain (OpenSpec.ofChange Rows.composeKeepsSpec)) Rows.composeKeepsCard :=
  Claim7.holds_tied_plain_at .later [] [.data, .data, .pinned] true (true, "b59fba76812983a2edbfeb7dc69721ef72231d0e5408923366ca0978bc32635f") false
    over (fun _ h => by cases h) (by kernel_rfl) (fun _ h => by cases h) composeKeeps_row_tie rfl ⟨rfl, rfl⟩ (by kernel_rfl) rfl
    (fun f fn hf hfn => by
      obtain rfl : f = 10 := Option.some.inj ((show Tryd.prog.funcNamed "epitome/epitomelaw09.ComposeKeeps" = some 10 by kernel_rfl).symm.trans hf) |>.symm
      obtain rfl : fn = Tryd.f10 := (Option.some.inj (Tryd.func10.symm.trans hfn)).symm
      exact ⟨by kernel_rfl, fun j t ht => by
        rw [Tryd.params10] at ht
        match j, ht with
        | 0, ht =>
          obtain rfl : t = 22 := by simpa using ht.symm
          exact (show Tryd.prog.wantsStandIn 22 = false by kernel_rfl)
        | 1, ht =>
          obtain rfl : t = 5 := by simpa using ht.symm
          exact (show Tryd.prog.wantsStandIn 5 = false by kernel_rfl)
        | 2, ht =>
          obtain rfl : t = 5 := by simpa using ht.symm
          exact (show Tryd.prog.wantsStandIn 5 = false by kernel_rfl)
        | j + 3, ht => simp at ht⟩)
    (by kernel_rfl)
theorem proved : Rows.ComposeKeepsCardSaid := card
end Go.Proofs.YtphbemkdhneklaaDoor.composeKeeps
namespace Go.Proofs.YtphbemkdhneklaaDoor
theorem composeKeeps_holds : Rows.ComposeKeepsCardSaid := composeKeeps.proved
#print axioms composeKeeps_holds
end Go.Proofs.YtphbemkdhneklaaDoor
end
