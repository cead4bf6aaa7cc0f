import Derived.Test.YtkefbljogjcodaaDoorKCApplyRowD
import Derived.Test.YtkefbljogjcodaaDoorKCApplyRowPA
import Derived.Below
import Derived.Deep.Draws
import Derived.Deep.AppendLies
import Derived.Maps.AppendAt
import Derived.OwnWalk
import Derived.Laws.BytesArg
import Derived.Laws.MakeOwn
import Derived.Laws.OwnMore
import Derived.Deep.OwnRows
import Derived.Tactics
import Derived.Lib.ConvBytes
import Derived.Laws.Slices
import Derived.WalkKit
import Derived.KernelRfl
import Derived.RowKit3
import Derived.Deep.LoopGhost
import Derived.Deep.QuietTactic
import Derived.BigQuiet
import Derived.WideLaws
import Derived.Deep.DeepCutAuto
import Derived.Deep.CutBlock
import Derived.Deep.RegionHeld3
import Derived.Laws.Rows
import Derived.Lib.AppendStr
import Derived.ArgAppend
import Derived.Laws.IdiomCopy
import Derived.RowKit
import Derived.OrdersHeld
import Derived.Laws.BitsLemmas
import Derived.Laws.StructEq
import Derived.Test.YtkefbljogjcodaaDoorProg
import Derived.Handy
import Derived.Shelf.Unicode.DecodeSlow
import Derived.Ground.NamesProg
import Derived.Shelf.Unicode.ValidAny
import Derived.Laws.IdiomStrings
import Derived.Laws.Cover4
import Derived.Laws.RangeString
import Derived.Laws.RangeAny
import Derived.Lib.RuneCount
import Derived.ProofKit
import Derived.OpenShut
import Derived.ShutString
import Derived.ChangeOld
import Derived.SizedLaws
import Derived.Lib.ValidLaws
import Derived.Test.YtkefbljogjcodaaDoorRows
import Derived.Lib.LaidU8T
import Derived.Lib.LaidIn
import Derived.LaidLaws
import Derived.Test.YtkefbljogjcodaaDoorTie
import Derived.Test.YtkefbljogjcodaaDoorCards
import Derived.Carry
import Derived.ChangeSame
import Derived.ChangeVars
import Derived.JoinedOf
import Derived.SevenTiedAt
section
namespace Go.Proofs.YtkefbljogjcodaaDoor.F
open Go.RowKit Go.Proofs.YtkefbljogjcodaaDoorW.PrintWords Go.Proofs.YtkefbljogjcodaaDoorW.PrintLast Go.Proofs.YtkefbljogjcodaaDoorW.PrintMore
attribute [local go_sem] max2_int min2_int max_two min_two max_three min_three max_four min_four cell_setCell_isSome
set_option linter.unusedVariables false
set_option linter.unusedSimpArgs false
def epitomelaw07_ApplyRow.Pure : Prop := ∀ (a0 : ByteArray) (l1 : List (List (S26))) (a2 : Int), a0.size ≤ maxLen → (l1.length ≤ maxLen ∧ ∀ x_ ∈ l1, (x_.length ≤ maxLen ∧ ∀ x_x_ ∈ x_, V26 x_x_)) → (Lit.int .u8 a2).wf = true → ∃ k, epitomelaw07_ApplyRow.f k a0 l1 a2 = some true
end Go.Proofs.YtkefbljogjcodaaDoor.F
end
section
namespace Go.Proofs.YtkefbljogjcodaaDoor.F
open Go.RowKit Go.Proofs.YtkefbljogjcodaaDoorW.PrintWords Go.Proofs.YtkefbljogjcodaaDoorW.PrintLast Go.Proofs.YtkefbljogjcodaaDoorW.PrintMore
set_option linter.unusedVariables false
set_option linter.unusedSimpArgs false
theorem Pure.ApplyRow : epitomelaw07_ApplyRow.Pure := by
  intro a0 l1 a2 h0 h1 h2
  apply Ev.rounds
  have hb := wf_u8 h2
  obtain ⟨m1, m2, t, ht, htl, -, hf⟩ := fit01_head a0 20 h0 (by omega)
  obtain ⟨w, hcw, hc, hwl⟩ := chain_is l1 h1.1 h1.2 t.length (by omega)
  have lw := rowsS_length w
  have hin : ∀ l ∈ rowsS w, l.length ≤ 500000 ∧ sizeS l ≤ 8000 := fun l hl => by
    obtain ⟨us, hus, rfl⟩ := List.mem_map.1 hl
    have h3 := chain7_cout w _ hc us hus
    have h4 := sizeS_un us
    rw [List.length_map]
    omega
  have eA := applyAll_is (w := w) (by omega) ht (by omega) (chain7_appOk w t ht hc)
  obtain ⟨x, p, q⟩ := anyAll (rowsS w) (by omega) hin t ht (by omega)
  have ex := ev_det p eA
  subst ex
  have hfew : ∀ l : List Sp, ((l.take 20).map (cutS 60)).length ≤ 500000 ∧ sizeS ((l.take 20).map (cutS 60)) ≤ 8000 := fun l => by
    have hl : ((l.take 20).map (cutS 60)).length ≤ 20 := by rw [List.length_map, List.length_take]; omega
    have := sizeS_le 60 ((l.take 20).map (cutS 60)) (fun s hs => by
      obtain ⟨x, _, rfl⟩ := List.mem_map.1 hs
      exact cutT_size 60 x.f2)
    omega
  have hw8 : wrap64 a2 = a2 := w64 (by omega) (by omega)
  unfold epitomelaw07_ApplyRow.f
  refine Ev.bind shown07 (ev_if_pos m1 (ev_if_pos m2 (Ev.bind hf (ev_some (count_enc t ht (by omega)) (Ev.bind hcw (Ev.bind eA (Ev.bind q ?_)))))))
  rw [hw8]
  have hw3 : ∀ W : List (List Sp), W.length = w.length → (∀ l ∈ W, l.length ≤ 500000 ∧ sizeS l ≤ 8000) → ∃ y : ByteArray × Int, Ev (fun k => apply_All.f k (encT t) W) y ∧ Ev (fun k => epitomeref07_All.f k (encT t) W) y := fun W e h => anyAll W (by omega) h t ht (by omega)
  have end_ : ∀ y : ByteArray × Int, Ev (fun k => (if true = true then (if (encT (apps t w)).toList = (encT (apps t w)).toList then (if (0 : Int) = 0 then (if (0 : Int) = 0 then (if y.1.toList = y.1.toList then (if y.2 = y.2 then (some ((3 : Int) == 3)) else (some false)) else (some false)) else (some false)) else (some false)) else (some false)) else (some false))) true := fun y =>
    ev_if_pos rfl (ev_if_pos rfl (ev_if_pos rfl (ev_if_pos rfl (ev_if_pos rfl (ev_if_pos rfl (Ev.now true))))))
  have eF : Ev (fun k => epitomelaw07_ApplyRow.j0 k l1 a2 true (encT t) (rowsS w) (encT (apps t w)) 0 (encT (apps t w)) 0 false) true := by
    obtain ⟨y, p1, q1⟩ := hw3 (rowsS w) (by omega) hin
    refine Ev.step (fun k => by rw [epitomelaw07_ApplyRow.j0, if_neg (by decide)]) ?_
    exact Ev.bind p1 (Ev.bind q1 (Ev.bind badText (end_ y)))
  have eT : a2 < ((rowsS w).length : Int) → a2 < (l1.length : Int) → Ev (fun k => epitomelaw07_ApplyRow.j0 k l1 a2 true (encT t) (rowsS w) (encT (apps t w)) 0 (encT (apps t w)) 0 true) true := fun c1 c2 => by
    have hmem : rd_L4 l1 a2 ∈ l1 := by
      unfold rd_L4
      rw [List.getD_eq_getElem?_getD, List.getElem?_eq_getElem (show a2.toNat < l1.length by omega)]
      exact List.getElem_mem _
    obtain ⟨y, p1, q1⟩ := hw3 ((rowsS w).set a2.toNat (((rd_L4 l1 a2).take 20).map (cutS 60))) (by rw [List.length_set]; omega) (fun l hl => by
      rcases List.mem_or_eq_of_mem_set hl with hl | rfl
      · exact hin l hl
      · exact hfew _)
    refine Ev.step (fun k => by rw [epitomelaw07_ApplyRow.j0, if_pos rfl, if_pos (by omega), if_pos c2]) ?_
    exact Ev.bind (few07_is _ (h1.2 _ hmem).1) (ev_if_pos c1 (ev_some rfl (Ev.bind p1 (Ev.bind q1 (Ev.bind badText (end_ y))))))
  by_cases c1 : a2 < ((rowsS w).length : Int)
  · refine ev_if_pos c1 ?_
    by_cases c2 : a2 < (l1.length : Int)
    · have := eT c1 c2
      simpa only [decide_eq_true c2] using this
    · simpa only [decide_eq_false c2] using eF
  · exact ev_if_neg c1 eF
end Go.Proofs.YtkefbljogjcodaaDoor.F
end
section
namespace Go.Proofs.YtkefbljogjcodaaDoor.applyRow
open Go.ChangeShapes Go.WideShapes Go.ChangeAt Go.RowKit Go.Proofs.YtkefbljogjcodaaDoor.F
open Go.Proofs.YtkefbljogjcodaaDoorW.PrintWords
open Go.ChangeMaps (open_string shut_string)
set_option linter.unusedVariables false
theorem own : ownKnob Tryd.prog.godebug = none := by kernel_rfl
theorem laidOut : laidOutB Tryd.prog = true := by kernel_rfl
theorem laid_met (os : Os) (args : Array Value) : laidMetH Tryd.prog Rows.applyRowRow.laid ((laidWorld os).forCall (fun _ _ => 0) ⟨#[], args, []⟩).memory :=
  (LaidIn.of_run (l := Rows.applyRowRow.laid) [2, 0, 1] 8 (by kernel_rfl) (by kernel_rfl) (by kernel_rfl) (by kernel_rfl)).met
set_option maxRecDepth 100000 in
theorem lifted (os : Os) (started : os.Started) (H : Type) (enc : TypeId × Value → H) :
    ReturnsInHanded {} Tryd.checked os 10 .any (fun w args => (Rows.applyRowSpec.pre enc Tryd.prog Tryd.f10 [] false w args ∧ laidMetH Tryd.prog Rows.applyRowRow.laid w) ∧ sizedMet enc Tryd.prog Tryd.f10 (OpenSpec.ofChange Rows.applyRowSpec) false w args) (Rows.applyRowSpec.post enc Tryd.prog Tryd.f10 false true false false) := by
  refine returnsInHanded_of_change_and (C := Tryd.checked) (X := (fun w _ => laidMetH Tryd.prog Rows.applyRowRow.laid w)) (fun _ _ _ hh h => h.of_heap hh) own started (by kernel_rfl) Tryd.func10
    (ChangeSpec.witness_at (enc := enc) (C := Tryd.checked) (os := os) (X := (fun w _ => laidMetH Tryd.prog Rows.applyRowRow.laid w)) false (laidWorld os) #[.string ByteArray.empty, .slice none 0 0, .int .u8 0] 8 rfl (by kernel_rfl) (by kernel_rfl) (by kernel_rfl) (by kernel_rfl) (by kernel_rfl) (laid_met os _)) ?_
  intro W base args ds gs before hval0 hW _ _ hL _
  have hG : Glob W := glob_of_reads (Lib.laidMet.reads hL (.tail _ (.tail _ (.head _)))) (Lib.laidMet.reads hL (.head _)) (Lib.laidMet.reads hL (.tail _ (.head _)))
  have hval : ∀ (j : Nat) t v, Tryd.f10.params[j]? = some t → args[j]? = some v → Value.okWide Tryd.prog W .any base t v := hval0
  have hW' := hW
  obtain ⟨p, q, hA0, hV, rfl, hfz, hnd⟩ := hW
  have hA : DataW.TrodAll enc Tryd.prog W 0 (fun _ => true) true Tryd.f10.params.toList args.toList ds p := hA0
  rw [Tryd.params10] at hA hval
  obtain ⟨v0, vs0, d0, ds0, p0, q0, hargs, rfl, rfl, h0, r0⟩ := trodAll_cons hA
  obtain ⟨v1, vs1, d1, ds1, p1, q1, rfl, rfl, rfl, h1, r1⟩ := trodAll_cons r0
  obtain ⟨v2, vs2, d2, ds2, p2, q2, rfl, rfl, rfl, h2, r2⟩ := trodAll_cons r1
  obtain ⟨rfl, rfl, rfl⟩ := trodAll_nil r2
  obtain rfl : args = #[v0, v1, v2] := by cases args; simp_all
  obtain ⟨rfl, rfl⟩ := trodVars_none hV
  obtain ⟨a0, rfl, rfl, rfl, hv0⟩ := open_string Tryd.underlying9 (hval 0 9 v0 rfl rfl) h0
  obtain ⟨A1, n1, c1, rfl⟩ := okWide_slice Tryd.underlying39 (hval 1 39 v1 rfl rfl)
  have k1 := h1
  have lt1 : ∀ x ∈ p1, x.block < W.heap.size := by obtain ⟨m, hm⟩ := k1; exact DataW.trod_lt m _ _ _ hm
  obtain ⟨l1, z1, hv1⟩ : ∃ l, (Kd.slice 27 (Kd.slice 26 k26)).K W l [Value.slice A1 n1 c1] ∧ (fun v_ => (v_.length ≤ maxLen ∧ ∀ x_ ∈ v_, (x_.length ≤ maxLen ∧ ∀ x_x_ ∈ x_, V26 x_x_))) l := by
    obtain ⟨fuel, hf⟩ := h1
    exact (opens_slice Tryd.underlying39 (by kernel_rfl) (opens_slice Tryd.underlying27 (by kernel_rfl) opens26)) enc W _ _ _ _ _ _ hf
  obtain ⟨A_, c_, e, hc1, hr1⟩ := z1
  simp only [List.cons.injEq, Value.slice.injEq, and_true] at e
  obtain ⟨rfl, rfl, rfl⟩ := e
  obtain ⟨a2, rfl, rfl, rfl, hv2⟩ := open_int Tryd.underlying5 (hval 2 5 v2 rfl rfl) h2
  obtain ⟨k, h⟩ := Pure.ApplyRow a0 l1 a2 hv0 hv1 hv2
  refine (epitomelaw07_ApplyRow.calls k a0 _ _ l1 a2 true ⟨rfl⟩ W hG hr1 hc1 h).mono ?_
  rintro e W' ⟨rfl, hd⟩
  have bel : Below W.heap.size W W' := hd
  exact ⟨_, rfl, _, _, _, [], _, [], hW', trodAll_mk1 (shut_bool Tryd.underlying4 _), (trodAll_cons_mk (shut_string Tryd.underlying9 hv0) (trodAll_cons_mk (Below.trod laidOut (by kernel_rfl) (of_decide_eq_true (by kernel_rfl)) k1 bel lt1) (trodAll_cons_mk (shut_int Tryd.underlying5 hv2) trodAll_mk0))), rfl, bel.frame _, fun h => by cases h⟩
theorem over : Rows.applyRowRow.holds Tryd.pinned (OpenSpec.ofChange Rows.applyRowSpec) :=
  OpenClaim.holds_of_wide 10 Tryd.f10 rfl rfl rfl rfl rfl rfl rfl ⟨rfl, rfl, rfl, rfl, rfl⟩ rfl rfl rfl rfl rfl (by kernel_rfl) Tryd.func10 (by kernel_rfl)
    (of_decide_eq_true (by kernel_rfl)) (by unfold Func.isWrapper; first | (rw [if_pos (by decide +kernel)]; kernel_rfl) | (rw [if_neg (by decide +kernel)]; exact ⟨rfl, rfl⟩))
    (fun os started H enc _ => lifted os started H enc)
theorem card : Claim7.holds Tryd.pinned (.plain (OpenSpec.ofChange Rows.applyRowSpec)) Rows.applyRowCard :=
  Claim7.holds_tied_plain_at .later [] [.data, .data, .pinned] true (true, "cb220046ee5715416f27fb58bb862ce5d799745ed337233484527cd9cd290028") false
    over (fun _ h => by cases h) (by kernel_rfl) (fun _ h => by cases h) applyRow_row_tie rfl ⟨rfl, rfl⟩ (by kernel_rfl) rfl
    (fun f fn hf hfn => by
      obtain rfl : f = 10 := Option.some.inj ((show Tryd.prog.funcNamed "epitome/epitomelaw07.ApplyRow" = some 10 by kernel_rfl).symm.trans hf) |>.symm
      obtain rfl : fn = Tryd.f10 := (Option.some.inj (Tryd.func10.symm.trans hfn)).symm
      exact ⟨by kernel_rfl, fun j t ht => by
        rw [Tryd.params10] at ht
        match j, ht with
        | 0, ht =>
          obtain rfl : t = 9 := by simpa using ht.symm
          exact (show Tryd.prog.wantsStandIn 9 = false by kernel_rfl)
        | 1, ht =>
          obtain rfl : t = 39 := by simpa using ht.symm
          exact (show Tryd.prog.wantsStandIn 39 = false by kernel_rfl)
        | 2, ht =>
          obtain rfl : t = 5 := by simpa using ht.symm
          exact (show Tryd.prog.wantsStandIn 5 = false by kernel_rfl)
        | j + 3, ht => simp at ht⟩)
    (by kernel_rfl)
theorem proved : Rows.ApplyRowCardSaid := card
end Go.Proofs.YtkefbljogjcodaaDoor.applyRow
namespace Go.Proofs.YtkefbljogjcodaaDoor
theorem applyRow_holds : Rows.ApplyRowCardSaid := applyRow.proved
#print axioms applyRow_holds
end Go.Proofs.YtkefbljogjcodaaDoor
end
