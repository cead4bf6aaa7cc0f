import Derived.Test.YtabodcedlhahfaaDoorKUnderKeepsA
import Derived.Test.YtabodcedlhahfaaDoorKUnderPA
import Derived.Below
import Derived.Deep.Draws
import Derived.Deep.AppendLies
import Derived.Maps.AppendAt
import Derived.OwnWalk
import Derived.Laws.BytesArg
import Derived.Laws.MakeOwn
import Derived.Laws.OwnMore
import Derived.Deep.OwnRows
import Derived.Tactics
import Derived.Lib.ConvBytes
import Derived.Laws.Slices
import Derived.WalkKit
import Derived.KernelRfl
import Derived.RowKit3
import Derived.Deep.LoopGhost
import Derived.Deep.QuietTactic
import Derived.BigQuiet
import Derived.WideLaws
import Derived.Deep.DeepCutAuto
import Derived.Deep.CutBlock
import Derived.Deep.RegionHeld3
import Derived.Laws.Rows
import Derived.Lib.AppendStr
import Derived.ArgAppend
import Derived.Laws.IdiomCopy
import Derived.RowKit
import Derived.OrdersHeld
import Derived.Laws.BitsLemmas
import Derived.Laws.StructEq
import Derived.Test.YtabodcedlhahfaaDoorProg
import Derived.Handy
import Derived.Shelf.Unicode.DecodeSlow
import Derived.Ground.NamesProg
import Derived.Shelf.Unicode.ValidAny
import Derived.Laws.RangeString
import Derived.Laws.RangeAny
import Derived.Lib.RuneCount
import Derived.Laws.IdiomStrings
import Derived.Laws.Cover4
import Derived.Great.BuildSlice
import Derived.Defers
import Derived.Laws.EntriesVeiled
import Derived.ProofKit
import Derived.OpenShut
import Derived.ShutString
import Derived.ChangeOld
import Derived.SizedLaws
import Derived.Lib.ValidLaws
import Derived.Test.YtabodcedlhahfaaDoorRows
import Derived.Lib.LaidU8T
import Derived.Lib.LaidIn
import Derived.LaidLaws
import Derived.Test.YtabodcedlhahfaaDoorTie
import Derived.Test.YtabodcedlhahfaaDoorCards
import Derived.Carry
import Derived.ChangeSame
import Derived.ChangeVars
import Derived.JoinedOf
import Derived.SevenTiedAt
section
namespace Go.Proofs.YtabodcedlhahfaaDoor.F
open Go.RowKit Go.Proofs.YtabodcedlhahfaaDoorW.PrintWords Go.Proofs.YtabodcedlhahfaaDoorW.PrintLast Go.Proofs.YtabodcedlhahfaaDoorW.PrintMore
attribute [local go_sem] max2_int min2_int max_two min_two max_three min_three max_four min_four cell_setCell_isSome
set_option linter.unusedVariables false
set_option linter.unusedSimpArgs false
def epitomelaw12_UnderKeeps.Pure : Prop := ∀ (l0 : List (S26)) (a1 : Int), (l0.length ≤ maxLen ∧ ∀ x_ ∈ l0, V26 x_) → (Lit.int .u8 a1).wf = true → ∃ k, epitomelaw12_UnderKeeps.f k l0 a1 = some true
end Go.Proofs.YtabodcedlhahfaaDoor.F
end
section
namespace Go.Proofs.YtabodcedlhahfaaDoor.F
open Go.RowKit Go.Proofs.YtabodcedlhahfaaDoorW.PrintWords Go.Proofs.YtabodcedlhahfaaDoorW.PrintLast Go.Proofs.YtabodcedlhahfaaDoorW.PrintMore
set_option linter.unusedVariables false
set_option linter.unusedSimpArgs false
theorem consUn_length (u : Un) (c : List Un) : (consUn u c).length ≤ c.length + 1 := by
  unfold consUn
  split <;> simp <;> omega
theorem canon_less : ∀ us : List Un, (canon (exU us)).length ≤ us.length
  | [] => Nat.le_refl _
  | u :: us => by
    have ih := canon_less us
    have := consUn_length u (canon (exU us))
    rw [exU_cons, canon_un, List.length_cons]
    omega
end Go.Proofs.YtabodcedlhahfaaDoor.F
end
section
namespace Go.Proofs.YtabodcedlhahfaaDoor.F
open Go.RowKit Go.Proofs.YtabodcedlhahfaaDoorW.PrintWords Go.Proofs.YtabodcedlhahfaaDoorW.PrintLast Go.Proofs.YtabodcedlhahfaaDoorW.PrintMore
set_option linter.unusedVariables false
set_option linter.unusedSimpArgs false
def keepU (n : Nat) : List Un := if n = 0 then [] else [.keep n]
theorem keepU_ex (n : Nat) : exU (keepU n) = List.replicate n .k := by
  unfold keepU
  split
  · next h => subst h; rfl
  · simp [exU, Un.ex]
theorem keepU_in (n : Nat) : ((keepU n).map Un.cin).sum = n := by
  unfold keepU
  split
  · next h => subst h; rfl
  · simp [Un.cin]
theorem keepU_out (n : Nat) : ((keepU n).map Un.cout).sum = n := by
  unfold keepU
  split
  · next h => subst h; rfl
  · simp [Un.cout]
theorem keepU_ok (n : Nat) (h : n ≤ 1048576) : Ok (keepU n) := by
  refine ⟨?_, ?_, by rw [keepU_in]; exact h, by rw [keepU_out]; omega⟩
  · intro u hu
    unfold keepU at hu
    split at hu
    · cases hu
    · simp at hu; subst hu; trivial
  · unfold keepU
    split <;> simp
theorem opKeep_is (n : Nat) (h : n ≤ 1048576) : Ev (fun k => op_Keep.f k (n : Int)) ((keepU n).map Un.sp, 0) := by
  unfold op_Keep.f
  refine ev_if_neg (by omega) ?_
  rw [decide_eq_false (by omega)]
  refine Ev.step (f := fun _ => some ((keepU n).map Un.sp, 0)) (fun k => ?_) (Ev.now _)
  rw [op_Keep.j0, if_neg (by simp)]
  unfold keepU
  by_cases h0 : n = 0
  · subst h0
    rfl
  · rw [if_neg (by omega), if_neg h0]
    rfl
end Go.Proofs.YtabodcedlhahfaaDoor.F
end
section
namespace Go.Proofs.YtabodcedlhahfaaDoor.F
open Go.RowKit Go.Proofs.YtabodcedlhahfaaDoorW.PrintWords Go.Proofs.YtabodcedlhahfaaDoorW.PrintLast Go.Proofs.YtabodcedlhahfaaDoorW.PrintMore
set_option linter.unusedVariables false
set_option linter.unusedSimpArgs false
theorem canon_keeps (n : Nat) : canon (List.replicate n .k) = keepU n := by
  rw [← keepU_ex]
  unfold keepU
  split
  · rfl
  · next h => rw [show exU [Un.keep n] = (Un.keep n).ex by simp [exU], canon_ex (by simp [fullU]; omega)]
end Go.Proofs.YtabodcedlhahfaaDoor.F
end
section
namespace Go.Proofs.YtabodcedlhahfaaDoor.F
open Go.RowKit Go.Proofs.YtabodcedlhahfaaDoorW.PrintWords Go.Proofs.YtabodcedlhahfaaDoorW.PrintLast Go.Proofs.YtabodcedlhahfaaDoorW.PrintMore
set_option linter.unusedVariables false
set_option linter.unusedSimpArgs false
theorem Pure.UnderKeeps : epitomelaw12_UnderKeeps.Pure := by
  intro l0 a h0 h1
  apply Ev.rounds
  obtain ⟨n, hn, en⟩ := rem64 a h1
  obtain ⟨us, hf0, f0⟩ := fitB l0 h0.1 h0.2 n (by omega)
  have c0 := f0.cout
  have i0 := f0.cinU
  have o0 := f0.coutU
  have n0 := f0.cin
  have l9 := f0.len
  have kin := keepU_in
  have kout := keepU_out
  obtain ⟨o, ho⟩ : ∃ o, (us.map Un.cout).sum = o := ⟨_, rfl⟩
  have e1 := under_is f0.ok (keepU_ok n (by omega)) (by omega) (by rw [kout]; omega) (by rw [kin]; omega)
  have e2 := under_is (keepU_ok n (by omega)) f0.ok (by rw [kout]; omega) (by omega) (by rw [kin]; omega)
  have e3 := meet_is f0.ok (keepU_ok n (by omega)) (by omega) (by rw [kout]; omega) (by rw [kin]; omega)
  rw [keepU_ex, show List.replicate n U.k = List.replicate (cinU (exU us)) .k by rw [i0]] at e1 e2 e3
  rw [under_keep_right] at e1
  rw [under_keep_left, o0, ho, canon_keeps] at e2
  rw [over_keep_right, under_keep_left, o0, ho, canon_keeps] at e3
  have lc := canon_less us
  have klen : (keepU o).length ≤ 1 := by unfold keepU; split <;> simp
  have sm := same_is ((canon (exU us)).map Un.sp) ((canon (exU us)).map Un.sp) (by rw [List.length_map]; omega)
  have sk := same_is ((keepU o).map Un.sp) ((keepU o).map Un.sp) (by rw [List.length_map]; omega)
  rw [decide_eq_true rfl] at sm sk
  have oo := opOut_is f0.ok
  rw [ho] at oo
  unfold epitomelaw12_UnderKeeps.f
  rw [en]
  refine Ev.bind shown12 (Ev.bind hf0 (Ev.bind (opKeep_is n (by omega)) (Ev.bind e1 (Ev.bind e2 (Ev.bind oo (Ev.bind (opKeep_is o (by omega)) (Ev.bind e3 ?_)))))))
  refine ev_if_pos rfl (ev_if_pos rfl (ev_if_pos rfl (ev_if_pos rfl (ev_if_pos rfl (ev_if_pos rfl ?_)))))
  refine Ev.bind (normalOk_is f0.ok) (Ev.bind sm (ev_if_pos rfl (Ev.bind sk (ev_if_pos rfl ?_))))
  exact Ev.bind (normalOk_is f0.ok) (Ev.bind sm (ev_if_pos rfl (Ev.bind sk (Ev.now true))))
end Go.Proofs.YtabodcedlhahfaaDoor.F
end
section
namespace Go.Proofs.YtabodcedlhahfaaDoor.underKeeps
open Go.ChangeShapes Go.WideShapes Go.ChangeAt Go.RowKit Go.Proofs.YtabodcedlhahfaaDoor.F
open Go.Proofs.YtabodcedlhahfaaDoorW.PrintWords
open Go.ChangeMaps (open_string shut_string)
set_option linter.unusedVariables false
theorem own : ownKnob Tryd.prog.godebug = none := by kernel_rfl
theorem laidOut : laidOutB Tryd.prog = true := by kernel_rfl
theorem laid_met (os : Os) (args : Array Value) : laidMetH Tryd.prog Rows.underKeepsRow.laid ((laidWorld os).forCall (fun _ _ => 0) ⟨#[], args, []⟩).memory :=
  (LaidIn.of_run (l := Rows.underKeepsRow.laid) [2, 0, 1] 8 (by kernel_rfl) (by kernel_rfl) (by kernel_rfl) (by kernel_rfl)).met
set_option maxRecDepth 100000 in
theorem lifted (os : Os) (started : os.Started) (H : Type) (enc : TypeId × Value → H) :
    ReturnsInHanded {} Tryd.checked os 6 .any (fun w args => (Rows.underKeepsSpec.pre enc Tryd.prog Tryd.f6 [] false w args ∧ laidMetH Tryd.prog Rows.underKeepsRow.laid w) ∧ sizedMet enc Tryd.prog Tryd.f6 (OpenSpec.ofChange Rows.underKeepsSpec) false w args) (Rows.underKeepsSpec.post enc Tryd.prog Tryd.f6 false true false false) := by
  refine returnsInHanded_of_change_and (C := Tryd.checked) (X := (fun w _ => laidMetH Tryd.prog Rows.underKeepsRow.laid w)) (fun _ _ _ hh h => h.of_heap hh) own started (by kernel_rfl) Tryd.func6
    (ChangeSpec.witness_at (enc := enc) (C := Tryd.checked) (os := os) (X := (fun w _ => laidMetH Tryd.prog Rows.underKeepsRow.laid w)) false (laidWorld os) #[.slice none 0 0, .int .u8 0] 8 rfl (by kernel_rfl) (by kernel_rfl) (by kernel_rfl) (by kernel_rfl) (by kernel_rfl) (laid_met os _)) ?_
  intro W base args ds gs before hval0 hW _ _ hL _
  have hG : Glob W := glob_of_reads (Lib.laidMet.reads hL (.tail _ (.tail _ (.head _)))) (Lib.laidMet.reads hL (.head _)) (Lib.laidMet.reads hL (.tail _ (.head _)))
  have hval : ∀ (j : Nat) t v, Tryd.f6.params[j]? = some t → args[j]? = some v → Value.okWide Tryd.prog W .any base t v := hval0
  have hW' := hW
  obtain ⟨p, q, hA0, hV, rfl, hfz, hnd⟩ := hW
  have hA : DataW.TrodAll enc Tryd.prog W 0 (fun _ => true) true Tryd.f6.params.toList args.toList ds p := hA0
  rw [Tryd.params6] at hA hval
  obtain ⟨v0, vs0, d0, ds0, p0, q0, hargs, rfl, rfl, h0, r0⟩ := trodAll_cons hA
  obtain ⟨v1, vs1, d1, ds1, p1, q1, rfl, rfl, rfl, h1, r1⟩ := trodAll_cons r0
  obtain ⟨rfl, rfl, rfl⟩ := trodAll_nil r1
  obtain rfl : args = #[v0, v1] := by cases args; simp_all
  obtain ⟨rfl, rfl⟩ := trodVars_none hV
  obtain ⟨A0, n0, c0, rfl⟩ := okWide_slice Tryd.underlying27 (hval 0 27 v0 rfl rfl)
  have k0 := h0
  have lt0 : ∀ x ∈ p0, x.block < W.heap.size := by obtain ⟨m, hm⟩ := k0; exact DataW.trod_lt m _ _ _ hm
  obtain ⟨l0, z0, hv0⟩ : ∃ l, (Kd.slice 26 k26).K W l [Value.slice A0 n0 c0] ∧ (fun v_ => (v_.length ≤ maxLen ∧ ∀ x_ ∈ v_, V26 x_)) l := by
    obtain ⟨fuel, hf⟩ := h0
    exact (opens_slice Tryd.underlying27 (by kernel_rfl) opens26) enc W _ _ _ _ _ _ hf
  obtain ⟨A_, c_, e, hc0, hr0⟩ := z0
  simp only [List.cons.injEq, Value.slice.injEq, and_true] at e
  obtain ⟨rfl, rfl, rfl⟩ := e
  obtain ⟨a1, rfl, rfl, rfl, hv1⟩ := open_int Tryd.underlying5 (hval 1 5 v1 rfl rfl) h1
  obtain ⟨k, h⟩ := Pure.UnderKeeps l0 a1 hv0 hv1
  refine (epitomelaw12_UnderKeeps.calls k _ _ l0 a1 true ⟨rfl⟩ W hG hr0 hc0 h).mono ?_
  rintro e W' ⟨rfl, hd⟩
  have bel : Below W.heap.size W W' := hd
  exact ⟨_, rfl, _, _, _, [], _, [], hW', trodAll_mk1 (shut_bool Tryd.underlying4 _), (trodAll_cons_mk (Below.trod laidOut (by kernel_rfl) (of_decide_eq_true (by kernel_rfl)) k0 bel lt0) (trodAll_cons_mk (shut_int Tryd.underlying5 hv1) trodAll_mk0)), rfl, bel.frame _, fun h => by cases h⟩
theorem over : Rows.underKeepsRow.holds Tryd.pinned (OpenSpec.ofChange Rows.underKeepsSpec) :=
  OpenClaim.holds_of_wide 6 Tryd.f6 rfl rfl rfl rfl rfl rfl rfl ⟨rfl, rfl, rfl, rfl, rfl⟩ rfl rfl rfl rfl rfl (by kernel_rfl) Tryd.func6 (by kernel_rfl)
    (of_decide_eq_true (by kernel_rfl)) (by unfold Func.isWrapper; first | (rw [if_pos (by decide +kernel)]; kernel_rfl) | (rw [if_neg (by decide +kernel)]; exact ⟨rfl, rfl⟩))
    (fun os started H enc _ => lifted os started H enc)
theorem card : Claim7.holds Tryd.pinned (.plain (OpenSpec.ofChange Rows.underKeepsSpec)) Rows.underKeepsCard :=
  Claim7.holds_tied_plain_at .later [] [.data, .data, .pinned] true (true, "c2251930897601772addbf6c1a442b84cebd7f45a12749bf08b797a7bafbc561") false
    over (fun _ h => by cases h) (by kernel_rfl) (fun _ h => by cases h) underKeeps_row_tie rfl ⟨rfl, rfl⟩ (by kernel_rfl) rfl
    (fun f fn hf hfn => by
      obtain rfl : f = 6 := Option.some.inj ((show Tryd.prog.funcNamed "epitome/epitomelaw12.UnderKeeps" = some 6 by kernel_rfl).symm.trans hf) |>.symm
      obtain rfl : fn = Tryd.f6 := (Option.some.inj (Tryd.func6.symm.trans hfn)).symm
      exact ⟨by kernel_rfl, fun j t ht => by
        rw [Tryd.params6] at ht
        match j, ht with
        | 0, ht =>
          obtain rfl : t = 27 := by simpa using ht.symm
          exact (show Tryd.prog.wantsStandIn 27 = false by kernel_rfl)
        | 1, ht =>
          obtain rfl : t = 5 := by simpa using ht.symm
          exact (show Tryd.prog.wantsStandIn 5 = false by kernel_rfl)
        | j + 2, ht => simp at ht⟩)
    (by kernel_rfl)
theorem proved : Rows.UnderKeepsCardSaid := card
end Go.Proofs.YtabodcedlhahfaaDoor.underKeeps
namespace Go.Proofs.YtabodcedlhahfaaDoor
theorem underKeeps_holds : Rows.UnderKeepsCardSaid := underKeeps.proved
#print axioms underKeeps_holds
end Go.Proofs.YtabodcedlhahfaaDoor
end
