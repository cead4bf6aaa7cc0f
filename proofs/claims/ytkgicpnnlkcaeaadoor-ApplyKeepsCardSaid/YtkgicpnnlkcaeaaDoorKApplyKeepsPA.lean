import Derived.Test.YtkgicpnnlkcaeaaDoorKApplyKeepsA
import Derived.Test.YtkgicpnnlkcaeaaDoorKYPA
import Derived.Below
import Derived.Deep.Draws
import Derived.Deep.AppendLies
import Derived.Maps.AppendAt
import Derived.OwnWalk
import Derived.Laws.BytesArg
import Derived.Laws.MakeOwn
import Derived.Laws.OwnMore
import Derived.Deep.OwnRows
import Derived.Tactics
import Derived.Lib.ConvBytes
import Derived.Laws.Slices
import Derived.WalkKit
import Derived.KernelRfl
import Derived.RowKit3
import Derived.Deep.LoopGhost
import Derived.Deep.QuietTactic
import Derived.BigQuiet
import Derived.WideLaws
import Derived.Deep.DeepCutAuto
import Derived.Deep.CutBlock
import Derived.Deep.RegionHeld3
import Derived.Laws.Rows
import Derived.Lib.AppendStr
import Derived.ArgAppend
import Derived.Laws.IdiomCopy
import Derived.RowKit
import Derived.OrdersHeld
import Derived.Laws.BitsLemmas
import Derived.Laws.StructEq
import Derived.Test.YtkgicpnnlkcaeaaDoorProg
import Derived.Handy
import Derived.Shelf.Unicode.DecodeSlow
import Derived.Ground.NamesProg
import Derived.Shelf.Unicode.ValidAny
import Derived.Laws.IdiomStrings
import Derived.Laws.Cover4
import Derived.Laws.RangeString
import Derived.Laws.RangeAny
import Derived.Lib.RuneCount
import Derived.Maps.OwnOps
import Derived.Maps.Views
import Derived.ProofKit
import Derived.OpenShut
import Derived.ShutString
import Derived.ChangeOld
import Derived.SizedLaws
import Derived.Lib.ValidLaws
import Derived.Test.YtkgicpnnlkcaeaaDoorRows
import Derived.Lib.LaidU8T
import Derived.Lib.LaidIn
import Derived.LaidLaws
import Derived.Test.YtkgicpnnlkcaeaaDoorTie
import Derived.Test.YtkgicpnnlkcaeaaDoorCards
import Derived.Carry
import Derived.ChangeSame
import Derived.ChangeVars
import Derived.JoinedOf
import Derived.SevenTiedAt
section
namespace Go.Proofs.YtkgicpnnlkcaeaaDoor.F
open Go.RowKit Go.Proofs.YtkgicpnnlkcaeaaDoorW.PrintWords Go.Proofs.YtkgicpnnlkcaeaaDoorW.PrintLast Go.Proofs.YtkgicpnnlkcaeaaDoorW.PrintMore
attribute [local go_sem] max2_int min2_int max_two min_two max_three min_three max_four min_four cell_setCell_isSome
set_option linter.unusedVariables false
set_option linter.unusedSimpArgs false
def epitomelaw07_ApplyKeeps.Pure : Prop := ∀ (a0 : ByteArray) (a1 : Int), a0.size ≤ maxLen → (Lit.int .u8 a1).wf = true → ∃ k, epitomelaw07_ApplyKeeps.f k a0 a1 = some true
end Go.Proofs.YtkgicpnnlkcaeaaDoor.F
end
section
namespace Go.Proofs.YtkgicpnnlkcaeaaDoor.F
open Go.RowKit Go.Proofs.YtkgicpnnlkcaeaaDoorW.PrintWords Go.Proofs.YtkgicpnnlkcaeaaDoorW.PrintLast Go.Proofs.YtkgicpnnlkcaeaaDoorW.PrintMore
set_option linter.unusedVariables false
set_option linter.unusedSimpArgs false
def keepU (n : Nat) : List Un := if n = 0 then [] else [.keep n]
theorem keepU_ex (n : Nat) : exU (keepU n) = List.replicate n .k := by
  unfold keepU
  split
  · next h => subst h; rfl
  · simp [exU, Un.ex]
theorem keepU_in (n : Nat) : ((keepU n).map Un.cin).sum = n := by
  unfold keepU
  split
  · next h => subst h; rfl
  · simp [Un.cin]
theorem keepU_out (n : Nat) : ((keepU n).map Un.cout).sum = n := by
  unfold keepU
  split
  · next h => subst h; rfl
  · simp [Un.cout]
theorem keepU_ok (n : Nat) (h : n ≤ 1048576) : Ok (keepU n) := by
  refine ⟨?_, ?_, by rw [keepU_in]; exact h, by rw [keepU_out]; omega⟩
  · intro u hu
    unfold keepU at hu
    split at hu
    · cases hu
    · simp at hu; subst hu; trivial
  · unfold keepU
    split <;> simp
theorem opKeep_is (n : Nat) (h : n ≤ 1048576) : Ev (fun k => op_Keep.f k (n : Int)) ((keepU n).map Un.sp, 0) := by
  unfold op_Keep.f
  refine ev_if_neg (by omega) ?_
  rw [decide_eq_false (by omega)]
  refine Ev.step (f := fun _ => some ((keepU n).map Un.sp, 0)) (fun k => ?_) (Ev.now _)
  rw [op_Keep.j0, if_neg (by simp)]
  unfold keepU
  by_cases h0 : n = 0
  · subst h0
    rfl
  · rw [if_neg (by omega), if_neg h0]
    rfl
theorem app_all (t : List Int) : app (List.replicate t.length .k) t = t := by
  have := app_keep t.length [] t (Nat.le_refl _)
  rw [List.append_nil] at this
  rw [this, List.take_length]
  simp [app]
theorem apply_bad {us : List Un} (h : Ok us) (a : ByteArray) (ha : a.size ≤ 1000) (hv : Lib.validD a.data.toList = false) : Ev (fun k => apply_To.f k (us.map Un.sp) a) (⟨#[]⟩, 3) := by
  have hp : points_Count.f a = some (-1) := by unfold points_Count.f; rw [if_pos (by omega), if_neg (by rw [hv]; simp)]
  unfold apply_To.f
  exact Ev.bind (opMay_is h) (ev_if_pos rfl (ev_some hp (ev_if_pos (by omega) (Ev.now _))))
theorem apply_odd {us : List Un} (h : Ok us) (t : List Int) (ht : Runes t) (htl : t.length ≤ 1048576) (hc : (us.map Un.cin).sum ≠ t.length) : Ev (fun k => apply_To.f k (us.map Un.sp) (encT t)) (⟨#[]⟩, 5) := by
  unfold apply_To.f
  exact Ev.bind (opMay_is h) (ev_if_pos rfl (ev_some (count_enc t ht (by omega)) (ev_if_neg (by omega) (Ev.bind (opIn_is h) (ev_if_neg (by omega) (Ev.now _))))))
theorem bad_ff : Lib.validD (⟨#[255]⟩ : ByteArray).data.toList = false := by
  rw [Lib.validD_step _ (by simp), Lib.decodeL_N]
  rfl
theorem Pure.ApplyKeeps : epitomelaw07_ApplyKeeps.Pure := by
  intro a0 a1 h0 b1
  apply Ev.rounds
  obtain ⟨m1, m2, t, ht, htl, -, hf⟩ := fit01_head a0 60 h0 (by omega)
  have r1 := wf_u8 b1
  obtain ⟨n, rfl⟩ : ∃ n : Nat, a1 = (n : Int) := ⟨a1.toNat, by omega⟩
  have hw : wrap64 (n : Int) = (n : Int) := w64 (by omega) (by omega)
  have ok1 := keepU_ok t.length (by omega)
  have ok2 := keepU_ok n (by omega)
  have e1 := applyTo_is ok1 t ht (keepU_in _)
  rw [keepU_ex, app_all] at e1
  have e3 := apply_bad ok2 ⟨#[255]⟩ (by decide) bad_ff
  have hn : (⟨#[]⟩ : ByteArray).toList = [] := by rw [ByteArray.toList_eq]
  unfold epitomelaw07_ApplyKeeps.f
  rw [hw]
  refine Ev.bind shown07 (ev_if_pos m1 (ev_if_pos m2 ?_))
  refine Ev.bind hf ?_
  refine ev_some (count_enc t ht (by omega)) ?_
  refine Ev.bind (opKeep_is t.length (by omega)) ?_
  refine Ev.bind e1 ?_
  refine Ev.bind (opKeep_is n (by omega)) ?_
  by_cases hc : n = t.length
  · have e2 : Ev (fun k => apply_To.f k ((keepU n).map Un.sp) (encT t)) (encT t, 0) := by rw [hc]; exact e1
    refine Ev.bind e2 ?_
    refine Ev.bind e3 ?_
    refine ev_some (count_enc t ht (by omega)) ?_
    refine ev_if_pos rfl (ev_if_pos rfl (ev_if_pos rfl (ev_if_pos rfl (ev_if_pos rfl ?_))))
    refine ev_if_pos (by simp [hc]) (ev_if_pos (by omega) (ev_if_pos rfl (ev_if_pos rfl ?_)))
    simp only [hn, beq_self_eq_true]
    exact Ev.now _
  · refine Ev.bind (apply_odd ok2 t ht (by omega) (by rw [keepU_in]; exact hc)) ?_
    refine Ev.bind e3 ?_
    refine ev_some (count_enc t ht (by omega)) ?_
    refine ev_if_pos rfl (ev_if_pos rfl (ev_if_pos rfl (ev_if_pos rfl (ev_if_pos rfl ?_))))
    refine ev_if_pos (by simp; omega) (ev_if_neg (by omega) (ev_if_neg (by omega) (ev_if_pos rfl (ev_if_pos hn (ev_if_pos rfl ?_)))))
    simp only [hn, beq_self_eq_true]
    exact Ev.now _
end Go.Proofs.YtkgicpnnlkcaeaaDoor.F
end
section
namespace Go.Proofs.YtkgicpnnlkcaeaaDoor.applyKeeps
open Go.ChangeShapes Go.WideShapes Go.ChangeAt Go.RowKit Go.Proofs.YtkgicpnnlkcaeaaDoor.F
open Go.Proofs.YtkgicpnnlkcaeaaDoorW.PrintWords
open Go.ChangeMaps (open_string shut_string)
set_option linter.unusedVariables false
theorem own : ownKnob Tryd.prog.godebug = none := by kernel_rfl
theorem laidOut : laidOutB Tryd.prog = true := by kernel_rfl
theorem laid_met (os : Os) (args : Array Value) : laidMetH Tryd.prog Rows.applyKeepsRow.laid ((laidWorld os).forCall (fun _ _ => 0) ⟨#[], args, []⟩).memory :=
  (LaidIn.of_run (l := Rows.applyKeepsRow.laid) [2, 0, 1] 8 (by kernel_rfl) (by kernel_rfl) (by kernel_rfl) (by kernel_rfl)).met
set_option maxRecDepth 100000 in
theorem lifted (os : Os) (started : os.Started) (H : Type) (enc : TypeId × Value → H) :
    ReturnsInHanded {} Tryd.checked os 10 .any (fun w args => (Rows.applyKeepsSpec.pre enc Tryd.prog Tryd.f10 [] false w args ∧ laidMetH Tryd.prog Rows.applyKeepsRow.laid w) ∧ sizedMet enc Tryd.prog Tryd.f10 (OpenSpec.ofChange Rows.applyKeepsSpec) false w args) (Rows.applyKeepsSpec.post enc Tryd.prog Tryd.f10 false true false false) := by
  refine returnsInHanded_of_change_and (C := Tryd.checked) (X := (fun w _ => laidMetH Tryd.prog Rows.applyKeepsRow.laid w)) (fun _ _ _ hh h => h.of_heap hh) own started (by kernel_rfl) Tryd.func10
    (ChangeSpec.witness_at (enc := enc) (C := Tryd.checked) (os := os) (X := (fun w _ => laidMetH Tryd.prog Rows.applyKeepsRow.laid w)) false (laidWorld os) #[.string ByteArray.empty, .int .u8 0] 8 rfl (by kernel_rfl) (by kernel_rfl) (by kernel_rfl) (by kernel_rfl) (by kernel_rfl) (laid_met os _)) ?_
  intro W base args ds gs before hval0 hW _ _ hL _
  have hG : Glob W := glob_of_reads (Lib.laidMet.reads hL (.tail _ (.tail _ (.head _)))) (Lib.laidMet.reads hL (.head _)) (Lib.laidMet.reads hL (.tail _ (.head _)))
  have hval : ∀ (j : Nat) t v, Tryd.f10.params[j]? = some t → args[j]? = some v → Value.okWide Tryd.prog W .any base t v := hval0
  have hW' := hW
  obtain ⟨p, q, hA0, hV, rfl, hfz, hnd⟩ := hW
  have hA : DataW.TrodAll enc Tryd.prog W 0 (fun _ => true) true Tryd.f10.params.toList args.toList ds p := hA0
  rw [Tryd.params10] at hA hval
  obtain ⟨v0, vs0, d0, ds0, p0, q0, hargs, rfl, rfl, h0, r0⟩ := trodAll_cons hA
  obtain ⟨v1, vs1, d1, ds1, p1, q1, rfl, rfl, rfl, h1, r1⟩ := trodAll_cons r0
  obtain ⟨rfl, rfl, rfl⟩ := trodAll_nil r1
  obtain rfl : args = #[v0, v1] := by cases args; simp_all
  obtain ⟨rfl, rfl⟩ := trodVars_none hV
  obtain ⟨a0, rfl, rfl, rfl, hv0⟩ := open_string Tryd.underlying9 (hval 0 9 v0 rfl rfl) h0
  obtain ⟨a1, rfl, rfl, rfl, hv1⟩ := open_int Tryd.underlying5 (hval 1 5 v1 rfl rfl) h1
  obtain ⟨k, h⟩ := Pure.ApplyKeeps a0 a1 hv0 hv1
  refine (epitomelaw07_ApplyKeeps.calls k a0 a1 true W hG  h).mono ?_
  rintro e W' ⟨rfl, hd⟩
  have bel : Below W.heap.size W W' := hd
  exact ⟨_, rfl, _, _, _, [], _, [], hW', trodAll_mk1 (shut_bool Tryd.underlying4 _), (trodAll_cons_mk (shut_string Tryd.underlying9 hv0) (trodAll_cons_mk (shut_int Tryd.underlying5 hv1) trodAll_mk0)), rfl, bel.frame _, fun h => by cases h⟩
theorem over : Rows.applyKeepsRow.holds Tryd.pinned (OpenSpec.ofChange Rows.applyKeepsSpec) :=
  OpenClaim.holds_of_wide 10 Tryd.f10 rfl rfl rfl rfl rfl rfl rfl ⟨rfl, rfl, rfl, rfl, rfl⟩ rfl rfl rfl rfl rfl (by kernel_rfl) Tryd.func10 (by kernel_rfl)
    (of_decide_eq_true (by kernel_rfl)) (by unfold Func.isWrapper; first | (rw [if_pos (by decide +kernel)]; kernel_rfl) | (rw [if_neg (by decide +kernel)]; exact ⟨rfl, rfl⟩))
    (fun os started H enc _ => lifted os started H enc)
theorem card : Claim7.holds Tryd.pinned (.plain (OpenSpec.ofChange Rows.applyKeepsSpec)) Rows.applyKeepsCard :=
  Claim7.holds_tied_plain_at .later [] [.data, .data, .pinned] true (true, "8ebf4b5b935d62fb34083f0ec33522bf7d163fe9f2247210fb781f7bf7557387") false
    over (fun _ h => by cases h) (by kernel_rfl) (fun _ h => by cases h) applyKeeps_row_tie rfl ⟨rfl, rfl⟩ (by kernel_rfl) rfl
    (fun f fn hf hfn => by
      obtain rfl : f = 10 := Option.some.inj ((show Tryd.prog.funcNamed "epitome/epitomelaw07.ApplyKeeps" = some 10 by kernel_rfl).symm.trans hf) |>.symm
      obtain rfl : fn = Tryd.f10 := (Option.some.inj (Tryd.func10.symm.trans hfn)).symm
      exact ⟨by kernel_rfl, fun j t ht => by
        rw [Tryd.params10] at ht
        match j, ht with
        | 0, ht =>
          obtain rfl : t = 9 := by simpa using ht.symm
          exact (show Tryd.prog.wantsStandIn 9 = false by kernel_rfl)
        | 1, ht =>
          obtain rfl : t = 5 := by simpa using ht.symm
          exact (show Tryd.prog.wantsStandIn 5 = false by kernel_rfl)
        | j + 2, ht => simp at ht⟩)
    (by kernel_rfl)
theorem proved : Rows.ApplyKeepsCardSaid := card
end Go.Proofs.YtkgicpnnlkcaeaaDoor.applyKeeps
namespace Go.Proofs.YtkgicpnnlkcaeaaDoor
theorem applyKeeps_holds : Rows.ApplyKeepsCardSaid := applyKeeps.proved
#print axioms applyKeeps_holds
end Go.Proofs.YtkgicpnnlkcaeaaDoor
end
