import Derived.Test.YtkgicpnnlkcaeaaDoorKApplyPartsA
import Derived.Test.YtkgicpnnlkcaeaaDoorKEPA
import Derived.Below
import Derived.Deep.Draws
import Derived.Deep.AppendLies
import Derived.Maps.AppendAt
import Derived.OwnWalk
import Derived.Laws.BytesArg
import Derived.Laws.MakeOwn
import Derived.Laws.OwnMore
import Derived.Deep.OwnRows
import Derived.Tactics
import Derived.Lib.ConvBytes
import Derived.Laws.Slices
import Derived.WalkKit
import Derived.KernelRfl
import Derived.RowKit3
import Derived.Deep.LoopGhost
import Derived.Deep.QuietTactic
import Derived.BigQuiet
import Derived.WideLaws
import Derived.Deep.DeepCutAuto
import Derived.Deep.CutBlock
import Derived.Deep.RegionHeld3
import Derived.Laws.Rows
import Derived.Lib.AppendStr
import Derived.ArgAppend
import Derived.Laws.IdiomCopy
import Derived.RowKit
import Derived.OrdersHeld
import Derived.Laws.BitsLemmas
import Derived.Laws.StructEq
import Derived.Test.YtkgicpnnlkcaeaaDoorProg
import Derived.Handy
import Derived.Shelf.Unicode.DecodeSlow
import Derived.Ground.NamesProg
import Derived.Shelf.Unicode.ValidAny
import Derived.Maps.OwnOps
import Derived.Maps.Views
import Derived.Laws.RangeString
import Derived.Laws.RangeAny
import Derived.Lib.RuneCount
import Derived.Laws.IdiomStrings
import Derived.Laws.Cover4
import Derived.ProofKit
import Derived.OpenShut
import Derived.ShutString
import Derived.ChangeOld
import Derived.SizedLaws
import Derived.Lib.ValidLaws
import Derived.Test.YtkgicpnnlkcaeaaDoorRows
import Derived.Lib.LaidU8T
import Derived.Lib.LaidIn
import Derived.LaidLaws
import Derived.Test.YtkgicpnnlkcaeaaDoorTie
import Derived.Test.YtkgicpnnlkcaeaaDoorCards
import Derived.Carry
import Derived.ChangeSame
import Derived.ChangeVars
import Derived.JoinedOf
import Derived.SevenTiedAt
section
namespace Go.Proofs.YtkgicpnnlkcaeaaDoor.F
open Go.RowKit Go.Proofs.YtkgicpnnlkcaeaaDoorW.PrintWords Go.Proofs.YtkgicpnnlkcaeaaDoorW.PrintLast Go.Proofs.YtkgicpnnlkcaeaaDoorW.PrintMore
attribute [local go_sem] max2_int min2_int max_two min_two max_three min_three max_four min_four cell_setCell_isSome
set_option linter.unusedVariables false
set_option linter.unusedSimpArgs false
def epitomelaw07_ApplyParts.Pure : Prop := ∀ (a0 : ByteArray) (a1 : ByteArray) (l2_0 : List (S33)) (l2_1 : List (S33)), a0.size ≤ maxLen → a1.size ≤ maxLen → (l2_0.length ≤ maxLen ∧ ∀ x_ ∈ l2_0, V33 x_) → (l2_1.length ≤ maxLen ∧ ∀ x_ ∈ l2_1, V33 x_) → ∃ k, epitomelaw07_ApplyParts.f k a0 a1 l2_0 l2_1 = some true
end Go.Proofs.YtkgicpnnlkcaeaaDoor.F
end
section
namespace Go.Proofs.YtkgicpnnlkcaeaaDoor.F
open Go.RowKit Go.Proofs.YtkgicpnnlkcaeaaDoorW.PrintWords Go.Proofs.YtkgicpnnlkcaeaaDoorW.PrintLast Go.Proofs.YtkgicpnnlkcaeaaDoorW.PrintMore
set_option linter.unusedVariables false
set_option linter.unusedSimpArgs false
theorem ok_append {a b : List Un} (ha : Ok a) (hb : Ok b) (h1 : a.length + b.length ≤ 2097152) (h2 : (a.map Un.cin).sum + (b.map Un.cin).sum ≤ 1048576) (h3 : (a.map Un.cout).sum + (b.map Un.cout).sum ≤ 1099511627776) : Ok (a ++ b) := by
  refine ⟨fun u hu => (List.mem_append.1 hu).elim (ha.ok u) (hb.ok u), by simpa using h1, by simpa using h2, by simpa using h3⟩
theorem Pure.ApplyParts : epitomelaw07_ApplyParts.Pure := by
  intro a0 a1 l0 l1 h0 h1 h2 h3
  apply Ev.rounds
  obtain ⟨m1, m2, s, hs, hsl, -, hf⟩ := fit01_head a0 30 h0 (by omega)
  obtain ⟨n1, n2, t, ht, htl, -, hg⟩ := fit01_head a1 30 h1 (by omega)
  obtain ⟨us, hu, mu⟩ := fit04_is l0 h2.1 h2.2 s.length (by omega)
  obtain ⟨vs, hv, mv⟩ := fit04_is l1 h3.1 h3.2 t.length (by omega)
  have fu := made_fit mu (by omega)
  have fv := made_fit mv (by omega)
  have cu := fu.cin
  have cv := fv.cin
  have cu2 := fu.cinU
  have cv2 := fv.cinU
  have ou := fu.cout
  have ov := fv.cout
  have ou2 := fu.coutU
  have ov2 := fv.coutU
  have lu := fu.len
  have lv := fv.len
  have al := app_length (exU us) s (by omega)
  have bl := app_length (exU vs) t (by omega)
  have sz := fun l : List Int => (encT_size l).2
  unfold epitomelaw07_ApplyParts.f
  refine Ev.bind shown07 ?_
  refine ev_if_pos m1 (ev_if_pos m2 ?_)
  refine Ev.bind hf ?_
  refine ev_if_pos n1 (ev_if_pos n2 ?_)
  refine Ev.bind hg ?_
  refine ev_some (count_enc s hs (by omega)) ?_
  refine Ev.bind hu ?_
  refine ev_some (count_enc t ht (by omega)) ?_
  refine Ev.bind hv ?_
  refine Ev.bind (applyTo_is fu.ok s hs (by omega)) ?_
  refine Ev.bind (applyTo_is fv.ok t ht (by omega)) ?_
  refine ev_some rfl ?_
  refine ev_if_pos (by simp; omega) ?_
  refine ev_some rfl ?_
  refine ev_if_pos (by simp; omega) ?_
  have z1 := sz s
  have z2 := sz t
  refine ev_if_pos (by omega) ?_
  rw [List.nil_append, ← List.map_append, ← encT_append]
  refine Ev.bind (applyTo_is (ok_append fu.ok fv.ok (by omega) (by omega) (by omega)) (s ++ t) (Runes.append hs ht) (by simp; omega)) ?_
  refine ev_if_pos rfl (ev_if_pos rfl (ev_if_pos rfl (ev_if_pos rfl ?_)))
  have z3 := sz (app (exU us) s)
  have z4 := sz (app (exU vs) t)
  refine ev_if_pos (by show (encT _).size + (encT _).size ≤ _; omega) ?_
  rw [exU_append, app_append _ _ _ _ (by omega), encT_append, beq_self_eq_true]
  exact Ev.now _
end Go.Proofs.YtkgicpnnlkcaeaaDoor.F
end
section
namespace Go.Proofs.YtkgicpnnlkcaeaaDoor.applyParts
open Go.ChangeShapes Go.WideShapes Go.ChangeAt Go.RowKit Go.Proofs.YtkgicpnnlkcaeaaDoor.F
open Go.Proofs.YtkgicpnnlkcaeaaDoorW.PrintWords
open Go.ChangeMaps (open_string shut_string)
set_option linter.unusedVariables false
theorem own : ownKnob Tryd.prog.godebug = none := by kernel_rfl
theorem laidOut : laidOutB Tryd.prog = true := by kernel_rfl
theorem laid_met (os : Os) (args : Array Value) : laidMetH Tryd.prog Rows.applyPartsRow.laid ((laidWorld os).forCall (fun _ _ => 0) ⟨#[], args, []⟩).memory :=
  (LaidIn.of_run (l := Rows.applyPartsRow.laid) [2, 0, 1] 8 (by kernel_rfl) (by kernel_rfl) (by kernel_rfl) (by kernel_rfl)).met
set_option maxRecDepth 100000 in
theorem lifted (os : Os) (started : os.Started) (H : Type) (enc : TypeId × Value → H) :
    ReturnsInHanded {} Tryd.checked os 7 .any (fun w args => (Rows.applyPartsSpec.pre enc Tryd.prog Tryd.f7 [] false w args ∧ laidMetH Tryd.prog Rows.applyPartsRow.laid w) ∧ sizedMet enc Tryd.prog Tryd.f7 (OpenSpec.ofChange Rows.applyPartsSpec) false w args) (Rows.applyPartsSpec.post enc Tryd.prog Tryd.f7 false true false false) := by
  refine returnsInHanded_of_change_and (C := Tryd.checked) (X := (fun w _ => laidMetH Tryd.prog Rows.applyPartsRow.laid w)) (fun _ _ _ hh h => h.of_heap hh) own started (by kernel_rfl) Tryd.func7
    (ChangeSpec.witness_at (enc := enc) (C := Tryd.checked) (os := os) (X := (fun w _ => laidMetH Tryd.prog Rows.applyPartsRow.laid w)) false (laidWorld os) #[.string ByteArray.empty, .string ByteArray.empty, .agg #[.slice none 0 0, .slice none 0 0]] 8 rfl (by kernel_rfl) (by kernel_rfl) (by kernel_rfl) (by kernel_rfl) (by kernel_rfl) (laid_met os _)) ?_
  intro W base args ds gs before hval0 hW _ _ hL _
  have hG : Glob W := glob_of_reads (Lib.laidMet.reads hL (.tail _ (.tail _ (.head _)))) (Lib.laidMet.reads hL (.head _)) (Lib.laidMet.reads hL (.tail _ (.head _)))
  have hval : ∀ (j : Nat) t v, Tryd.f7.params[j]? = some t → args[j]? = some v → Value.okWide Tryd.prog W .any base t v := hval0
  have hW' := hW
  obtain ⟨p, q, hA0, hV, rfl, hfz, hnd⟩ := hW
  have hA : DataW.TrodAll enc Tryd.prog W 0 (fun _ => true) true Tryd.f7.params.toList args.toList ds p := hA0
  rw [Tryd.params7] at hA hval
  obtain ⟨v0, vs0, d0, ds0, p0, q0, hargs, rfl, rfl, h0, r0⟩ := trodAll_cons hA
  obtain ⟨v1, vs1, d1, ds1, p1, q1, rfl, rfl, rfl, h1, r1⟩ := trodAll_cons r0
  obtain ⟨v2, vs2, d2, ds2, p2, q2, rfl, rfl, rfl, h2, r2⟩ := trodAll_cons r1
  obtain ⟨rfl, rfl, rfl⟩ := trodAll_nil r2
  obtain rfl : args = #[v0, v1, v2] := by cases args; simp_all
  obtain ⟨rfl, rfl⟩ := trodVars_none hV
  obtain ⟨a0, rfl, rfl, rfl, hv0⟩ := open_string Tryd.underlying9 (hval 0 9 v0 rfl rfl) h0
  obtain ⟨a1, rfl, rfl, rfl, hv1⟩ := open_string Tryd.underlying9 (hval 1 9 v1 rfl rfl) h1
  obtain ⟨cs2, rfl⟩ := agg_array Tryd.underlying51 (hval 2 51 v2 rfl rfl)
  have k2 := h2
  have lt2 : ∀ x ∈ p2, x.block < W.heap.size := by obtain ⟨m, hm⟩ := k2; exact DataW.trod_lt m _ _ _ hm
  obtain ⟨x2, z2, hv2⟩ : ∃ x, k51.K W x cs2.toList ∧ V51 x := by
    obtain ⟨fuel, hf⟩ := h2
    exact opens51 enc W _ _ _ _ _ _ hf
  obtain ⟨c2_0, w2_0, e2_0, h2_0, h2_1⟩ := z2
  obtain ⟨A2_0, c_2_0, ec2_0, hc2_0, hr2_0⟩ := h2_0
  obtain ⟨A2_1, c_2_1, ec2_1, hc2_1, hr2_1⟩ := h2_1
  obtain rfl : cs2 = #[.slice A2_0 x2.f0.length c_2_0, .slice A2_1 x2.f1.length c_2_1] := by
    apply arr_of (l := [.slice A2_0 x2.f0.length c_2_0, .slice A2_1 x2.f1.length c_2_1])
    rw [e2_0, ec2_0, ec2_1]
    rfl
  obtain ⟨b2_0, b2_1⟩ := x2
  obtain ⟨k, h⟩ := Pure.ApplyParts a0 a1 b2_0 b2_1 hv0 hv1 (by exact hv2.1) (by exact hv2.2)
  refine (epitomelaw07_ApplyParts.calls k a0 a1 _ _ b2_0 _ _ b2_1 true W hG hr2_0 hc2_0 hr2_1 hc2_1 h).mono ?_
  rintro e W' ⟨rfl, hd⟩
  have bel : Below W.heap.size W W' := hd
  exact ⟨_, rfl, _, _, _, [], _, [], hW', trodAll_mk1 (shut_bool Tryd.underlying4 _), (trodAll_cons_mk (shut_string Tryd.underlying9 hv0) (trodAll_cons_mk (shut_string Tryd.underlying9 hv1) (trodAll_cons_mk (Below.trod laidOut (by kernel_rfl) (of_decide_eq_true (by kernel_rfl)) k2 bel lt2) trodAll_mk0))), rfl, bel.frame _, fun h => by cases h⟩
theorem over : Rows.applyPartsRow.holds Tryd.pinned (OpenSpec.ofChange Rows.applyPartsSpec) :=
  OpenClaim.holds_of_wide 7 Tryd.f7 rfl rfl rfl rfl rfl rfl rfl ⟨rfl, rfl, rfl, rfl, rfl⟩ rfl rfl rfl rfl rfl (by kernel_rfl) Tryd.func7 (by kernel_rfl)
    (of_decide_eq_true (by kernel_rfl)) (by unfold Func.isWrapper; first | (rw [if_pos (by decide +kernel)]; kernel_rfl) | (rw [if_neg (by decide +kernel)]; exact ⟨rfl, rfl⟩))
    (fun os started H enc _ => lifted os started H enc)
theorem card : Claim7.holds Tryd.pinned (.plain (OpenSpec.ofChange Rows.applyPartsSpec)) Rows.applyPartsCard :=
  Claim7.holds_tied_plain_at .later [] [.data, .data, .pinned] true (true, "8ebf4b5b935d62fb34083f0ec33522bf7d163fe9f2247210fb781f7bf7557387") false
    over (fun _ h => by cases h) (by kernel_rfl) (fun _ h => by cases h) applyParts_row_tie rfl ⟨rfl, rfl⟩ (by kernel_rfl) rfl
    (fun f fn hf hfn => by
      obtain rfl : f = 7 := Option.some.inj ((show Tryd.prog.funcNamed "epitome/epitomelaw07.ApplyParts" = some 7 by kernel_rfl).symm.trans hf) |>.symm
      obtain rfl : fn = Tryd.f7 := (Option.some.inj (Tryd.func7.symm.trans hfn)).symm
      exact ⟨by kernel_rfl, fun j t ht => by
        rw [Tryd.params7] at ht
        match j, ht with
        | 0, ht =>
          obtain rfl : t = 9 := by simpa using ht.symm
          exact (show Tryd.prog.wantsStandIn 9 = false by kernel_rfl)
        | 1, ht =>
          obtain rfl : t = 9 := by simpa using ht.symm
          exact (show Tryd.prog.wantsStandIn 9 = false by kernel_rfl)
        | 2, ht =>
          obtain rfl : t = 51 := by simpa using ht.symm
          exact (show Tryd.prog.wantsStandIn 51 = false by kernel_rfl)
        | j + 3, ht => simp at ht⟩)
    (by kernel_rfl)
theorem proved : Rows.ApplyPartsCardSaid := card
end Go.Proofs.YtkgicpnnlkcaeaaDoor.applyParts
namespace Go.Proofs.YtkgicpnnlkcaeaaDoor
theorem applyParts_holds : Rows.ApplyPartsCardSaid := applyParts.proved
#print axioms applyParts_holds
end Go.Proofs.YtkgicpnnlkcaeaaDoor
end
