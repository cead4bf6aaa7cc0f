import Derived.Test.YthhgobiaecehbaaDoorKFuseCancelsA
import Derived.Test.YthhgobiaecehbaaDoorKGFuPA
import Derived.Below
import Derived.Deep.Draws
import Derived.Deep.AppendLies
import Derived.Maps.AppendAt
import Derived.OwnWalk
import Derived.Laws.BytesArg
import Derived.Laws.MakeOwn
import Derived.Laws.OwnMore
import Derived.Deep.OwnRows
import Derived.Tactics
import Derived.Lib.ConvBytes
import Derived.Laws.Slices
import Derived.WalkKit
import Derived.KernelRfl
import Derived.RowKit3
import Derived.Deep.LoopGhost
import Derived.Deep.QuietTactic
import Derived.BigQuiet
import Derived.WideLaws
import Derived.Deep.DeepCutAuto
import Derived.Deep.CutBlock
import Derived.Deep.RegionHeld3
import Derived.Laws.Rows
import Derived.Lib.AppendStr
import Derived.ArgAppend
import Derived.Laws.IdiomCopy
import Derived.RowKit
import Derived.OrdersHeld
import Derived.Laws.BitsLemmas
import Derived.Laws.StructEq
import Derived.Test.YthhgobiaecehbaaDoorProg
import Derived.Handy
import Derived.Shelf.Unicode.DecodeSlow
import Derived.Ground.NamesProg
import Derived.Shelf.Unicode.ValidAny
import Derived.Laws.RangeString
import Derived.Laws.RangeAny
import Derived.Lib.RuneCount
import Derived.Laws.IdiomStrings
import Derived.Laws.Cover4
import Derived.Great.BuildSlice
import Derived.ProofKit
import Derived.OpenShut
import Derived.ShutString
import Derived.ChangeOld
import Derived.SizedLaws
import Derived.Lib.ValidLaws
import Derived.Test.YthhgobiaecehbaaDoorRows
import Derived.Lib.LaidU8T
import Derived.Lib.LaidIn
import Derived.LaidLaws
import Derived.Test.YthhgobiaecehbaaDoorTie
import Derived.Test.YthhgobiaecehbaaDoorCards
import Derived.Carry
import Derived.ChangeSame
import Derived.ChangeVars
import Derived.JoinedOf
import Derived.SevenTiedAt
section
namespace Go.Proofs.YthhgobiaecehbaaDoor.F
open Go.RowKit Go.Proofs.YthhgobiaecehbaaDoorW.PrintWords Go.Proofs.YthhgobiaecehbaaDoorW.PrintLast Go.Proofs.YthhgobiaecehbaaDoorW.PrintMore
attribute [local go_sem] max2_int min2_int max_two min_two max_three min_three max_four min_four cell_setCell_isSome
set_option linter.unusedVariables false
set_option linter.unusedSimpArgs false
def epitomelaw10_FuseCancels.Pure : Prop := ∀ (a0 : ByteArray) (a1 : Int) (a2 : Int), a0.size ≤ maxLen → (Lit.int .u8 a1).wf = true → (Lit.int .u8 a2).wf = true → ∃ k, epitomelaw10_FuseCancels.f k a0 a1 a2 = some true
end Go.Proofs.YthhgobiaecehbaaDoor.F
end
section
namespace Go.Proofs.YthhgobiaecehbaaDoor.F
open Go.RowKit Go.Proofs.YthhgobiaecehbaaDoorW.PrintWords Go.Proofs.YthhgobiaecehbaaDoorW.PrintLast Go.Proofs.YthhgobiaecehbaaDoorW.PrintMore
set_option linter.unusedVariables false
set_option linter.unusedSimpArgs false
theorem ok_put2 {i j : Nat} {t : List Int} (ht : Runes t) (h1 : i ≤ 1000) (h2 : j ≤ 1000) (h3 : t.length ≤ 1000) : Ok [.keep i, .put t, .keep j] := by
  refine ⟨fun u hu => ?_, by simp, by simp [Un.cin]; omega, by simp [Un.cout]; omega⟩
  simp only [List.mem_cons, List.mem_nil_iff, or_false] at hu
  rcases hu with rfl | rfl | rfl
  · trivial
  · exact ht
  · trivial
theorem ex_put2 (i j : Nat) (t : List Int) : exU [.keep i, .put t, .keep j] = List.replicate i .k ++ (t.map .p ++ List.replicate j .k) := by simp [exU, Un.ex]
theorem tie_1 {n k : Nat} (h : k ≤ n) (hn : n ≤ 1000) : wrap64 ((n : Int) - (k : Int)) = ((n - k : Nat) : Int) := by rw [w64 (by omega) (by omega)]; omega
end Go.Proofs.YthhgobiaecehbaaDoor.F
end
section
namespace Go.Proofs.YthhgobiaecehbaaDoor.F
open Go.RowKit Go.Proofs.YthhgobiaecehbaaDoorW.PrintWords Go.Proofs.YthhgobiaecehbaaDoorW.PrintLast Go.Proofs.YthhgobiaecehbaaDoorW.PrintMore
set_option linter.unusedVariables false
set_option linter.unusedSimpArgs false
theorem ok_drop2 {i j m : Nat} (h1 : i ≤ 1000) (h2 : j ≤ 1000) (h3 : m ≤ 1000) : Ok [.keep i, .drop m, .keep j] := by
  refine ⟨fun u hu => ?_, by simp, by simp [Un.cin]; omega, by simp [Un.cout]; omega⟩
  simp only [List.mem_cons, List.mem_nil_iff, or_false] at hu
  rcases hu with rfl | rfl | rfl <;> trivial
theorem comp_cancel (i j : Nat) (t : List Int) : compU (List.replicate i .k ++ (t.map .p ++ List.replicate j .k)) (List.replicate i .k ++ (List.replicate t.length .d ++ List.replicate j .k)) = List.replicate (i + j) .k := by
  have h := comp_keep_left (List.replicate j .k)
  rw [keeps_in] at h
  rw [comp_kk, comp_pd, h, List.replicate_append_replicate]
theorem Pure.FuseCancels : epitomelaw10_FuseCancels.Pure := by
  intro a0 b a h0 h1 h2
  apply Ev.rounds
  obtain ⟨n, hn, en⟩ := rem64 a h2
  have b2 := wf_u8 h1
  obtain ⟨kk, hkk, ek⟩ := cut_place b n b2.1
  have ew : wrap64 b = b := w64 (by omega) (by omega)
  have en1 : wrap64 ((n : Int) + 1) = ((n + 1 : Nat) : Int) := w64_succ n (by omega)
  have hmn := mn_le (a0.size : Int) 20
  have hex := extract_size a0 (mn (a0.size : Int) 20).toNat
  have hf := fit01_is (a0.extract 0 (mn (a0.size : Int) 20).toNat) (by omega)
  obtain ⟨t, ht⟩ : ∃ t, fitRunes (a0.extract 0 (mn (a0.size : Int) 20).toNat) = t := ⟨_, rfl⟩
  have tl : t.length ≤ 20 := by rw [← ht, fitRunes_length]; omega
  have tr : Runes t := fun r hr => alpha_rune r (fitRunes_mem _ r (by rw [ht]; exact hr))
  rw [ht] at hf
  have okP := ok_put2 (i := kk) (j := n - kk) tr (by omega) (by omega) (by omega)
  have okD := ok_drop2 (i := kk) (j := n - kk) (m := t.length) (by omega) (by omega) (by omega)
  have okK := keepU_ok n (by omega)
  have kI := keepU_in n
  have kO := keepU_out n
  have gA : ChainG n [keepU n, [.keep kk, .put t, .keep (n - kk)], [.keep kk, .drop t.length, .keep (n - kk)], keepU n] :=
    ⟨okK, kI, by omega, okP, by rw [kO]; (first | (simp [Un.cin]; done) | (simp [Un.cin]; omega)), by (first | (simp [Un.cout]; done) | (simp [Un.cout]; omega)), okD, by (first | (simp [Un.cin, Un.cout]; done) | (simp [Un.cin, Un.cout]; omega)), by (first | (simp [Un.cout]; done) | (simp [Un.cout]; omega)), okK, by rw [kI]; (first | (simp [Un.cout]; done) | (simp [Un.cout]; omega)), by omega, trivial⟩
  have gB : ChainG n [[.keep kk, .put t, .keep (n - kk)]] := ⟨okP, by (first | (simp [Un.cin]; done) | (simp [Un.cin]; omega)), by (first | (simp [Un.cout]; done) | (simp [Un.cout]; omega)), trivial⟩
  obtain ⟨eA, _, _, _, _⟩ := fuseG_is gA (by omega)
  obtain ⟨eB, _, _, _, _⟩ := fuseG_is gB (by omega)
  have kl_ : ∀ y : List U, cinU y = n → compU (List.replicate n .k) y = y := fun y hy => by rw [← hy, comp_keep_left]
  have cP : cinU (exU [.keep kk, .put t, .keep (n - kk)]) = n := by rw [cinU_ex]; simp [Un.cin]; omega
  have qB : fuseU (List.replicate n .k) (exR [[.keep kk, .put t, .keep (n - kk)]]) = exU [.keep kk, .put t, .keep (n - kk)] := kl_ _ cP
  have qA : fuseU (List.replicate n .k) (exR [keepU n, [.keep kk, .put t, .keep (n - kk)], [.keep kk, .drop t.length, .keep (n - kk)], keepU n]) = List.replicate n .k := by
    show compU (compU (compU (compU (List.replicate n .k) (exU (keepU n))) (exU [.keep kk, .put t, .keep (n - kk)])) (exU [.keep kk, .drop t.length, .keep (n - kk)])) (exU (keepU n)) = _
    rw [keepU_ex, kl_ _ (keeps_in n), kl_ _ cP, ex_put2, show exU [Un.keep kk, .drop t.length, .keep (n - kk)] = List.replicate kk .k ++ (List.replicate t.length .d ++ List.replicate (n - kk) .k) by simp [exU, Un.ex], comp_cancel, show kk + (n - kk) = n by omega, kl_ _ (keeps_in n)]
  rw [qA, canon_keeps] at eA
  rw [qB] at eB
  have t1 := same_is ((keepU n).map Un.sp) ((keepU n).map Un.sp) (by rw [List.length_map]; unfold keepU; split <;> simp)
  have lP := canon_less [Un.keep kk, .put t, .keep (n - kk)]
  simp only [List.length_cons, List.length_nil] at lP
  have t2 := same_is ((canon (exU [Un.keep kk, .put t, .keep (n - kk)])).map Un.sp) ((canon (exU [Un.keep kk, .put t, .keep (n - kk)])).map Un.sp) (by rw [List.length_map]; omega)
  rw [decide_eq_true rfl] at t1 t2
  unfold epitomelaw10_FuseCancels.f
  rw [en, en1, ew, ek, tie_1 hkk (by omega)]
  refine Ev.bind shown10 (ev_if_pos (by omega) (ev_if_pos (by omega) (Ev.bind hf (ev_if_neg (by omega) (Ev.bind (opKeep_is n (by omega)) (ev_some rfl (ev_some (count_enc t tr (by omega)) (Ev.bind eA (Ev.bind eB ?_)))))))))
  exact ev_if_pos rfl (ev_if_pos rfl (ev_if_pos rfl (Ev.bind t1 (ev_if_pos rfl (Ev.bind (normalOk_is okP) (Ev.bind t2 (Ev.now true)))))))
end Go.Proofs.YthhgobiaecehbaaDoor.F
end
section
namespace Go.Proofs.YthhgobiaecehbaaDoor.fuseCancels
open Go.ChangeShapes Go.WideShapes Go.ChangeAt Go.RowKit Go.Proofs.YthhgobiaecehbaaDoor.F
open Go.Proofs.YthhgobiaecehbaaDoorW.PrintWords
open Go.ChangeMaps (open_string shut_string)
set_option linter.unusedVariables false
theorem own : ownKnob Tryd.prog.godebug = none := by kernel_rfl
theorem laidOut : laidOutB Tryd.prog = true := by kernel_rfl
theorem laid_met (os : Os) (args : Array Value) : laidMetH Tryd.prog Rows.fuseCancelsRow.laid ((laidWorld os).forCall (fun _ _ => 0) ⟨#[], args, []⟩).memory :=
  (LaidIn.of_run (l := Rows.fuseCancelsRow.laid) [2, 0, 1] 8 (by kernel_rfl) (by kernel_rfl) (by kernel_rfl) (by kernel_rfl)).met
set_option maxRecDepth 100000 in
theorem lifted (os : Os) (started : os.Started) (H : Type) (enc : TypeId × Value → H) :
    ReturnsInHanded {} Tryd.checked os 5 .any (fun w args => (Rows.fuseCancelsSpec.pre enc Tryd.prog Tryd.f5 [] false w args ∧ laidMetH Tryd.prog Rows.fuseCancelsRow.laid w) ∧ sizedMet enc Tryd.prog Tryd.f5 (OpenSpec.ofChange Rows.fuseCancelsSpec) false w args) (Rows.fuseCancelsSpec.post enc Tryd.prog Tryd.f5 false true false false) := by
  refine returnsInHanded_of_change_and (C := Tryd.checked) (X := (fun w _ => laidMetH Tryd.prog Rows.fuseCancelsRow.laid w)) (fun _ _ _ hh h => h.of_heap hh) own started (by kernel_rfl) Tryd.func5
    (ChangeSpec.witness_at (enc := enc) (C := Tryd.checked) (os := os) (X := (fun w _ => laidMetH Tryd.prog Rows.fuseCancelsRow.laid w)) false (laidWorld os) #[.string ByteArray.empty, .int .u8 0, .int .u8 0] 8 rfl (by kernel_rfl) (by kernel_rfl) (by kernel_rfl) (by kernel_rfl) (by kernel_rfl) (laid_met os _)) ?_
  intro W base args ds gs before hval0 hW _ _ hL _
  have hG : Glob W := glob_of_reads (Lib.laidMet.reads hL (.tail _ (.tail _ (.head _)))) (Lib.laidMet.reads hL (.head _)) (Lib.laidMet.reads hL (.tail _ (.head _)))
  have hval : ∀ (j : Nat) t v, Tryd.f5.params[j]? = some t → args[j]? = some v → Value.okWide Tryd.prog W .any base t v := hval0
  have hW' := hW
  obtain ⟨p, q, hA0, hV, rfl, hfz, hnd⟩ := hW
  have hA : DataW.TrodAll enc Tryd.prog W 0 (fun _ => true) true Tryd.f5.params.toList args.toList ds p := hA0
  rw [Tryd.params5] at hA hval
  obtain ⟨v0, vs0, d0, ds0, p0, q0, hargs, rfl, rfl, h0, r0⟩ := trodAll_cons hA
  obtain ⟨v1, vs1, d1, ds1, p1, q1, rfl, rfl, rfl, h1, r1⟩ := trodAll_cons r0
  obtain ⟨v2, vs2, d2, ds2, p2, q2, rfl, rfl, rfl, h2, r2⟩ := trodAll_cons r1
  obtain ⟨rfl, rfl, rfl⟩ := trodAll_nil r2
  obtain rfl : args = #[v0, v1, v2] := by cases args; simp_all
  obtain ⟨rfl, rfl⟩ := trodVars_none hV
  obtain ⟨a0, rfl, rfl, rfl, hv0⟩ := open_string Tryd.underlying9 (hval 0 9 v0 rfl rfl) h0
  obtain ⟨a1, rfl, rfl, rfl, hv1⟩ := open_int Tryd.underlying5 (hval 1 5 v1 rfl rfl) h1
  obtain ⟨a2, rfl, rfl, rfl, hv2⟩ := open_int Tryd.underlying5 (hval 2 5 v2 rfl rfl) h2
  obtain ⟨k, h⟩ := Pure.FuseCancels a0 a1 a2 hv0 hv1 hv2
  refine (epitomelaw10_FuseCancels.calls k a0 a1 a2 true ⟨rfl⟩ W hG  h).mono ?_
  rintro e W' ⟨rfl, hd⟩
  have bel : Below W.heap.size W W' := hd
  exact ⟨_, rfl, _, _, _, [], _, [], hW', trodAll_mk1 (shut_bool Tryd.underlying4 _), (trodAll_cons_mk (shut_string Tryd.underlying9 hv0) (trodAll_cons_mk (shut_int Tryd.underlying5 hv1) (trodAll_cons_mk (shut_int Tryd.underlying5 hv2) trodAll_mk0))), rfl, bel.frame _, fun h => by cases h⟩
theorem over : Rows.fuseCancelsRow.holds Tryd.pinned (OpenSpec.ofChange Rows.fuseCancelsSpec) :=
  OpenClaim.holds_of_wide 5 Tryd.f5 rfl rfl rfl rfl rfl rfl rfl ⟨rfl, rfl, rfl, rfl, rfl⟩ rfl rfl rfl rfl rfl (by kernel_rfl) Tryd.func5 (by kernel_rfl)
    (of_decide_eq_true (by kernel_rfl)) (by unfold Func.isWrapper; first | (rw [if_pos (by decide +kernel)]; kernel_rfl) | (rw [if_neg (by decide +kernel)]; exact ⟨rfl, rfl⟩))
    (fun os started H enc _ => lifted os started H enc)
theorem card : Claim7.holds Tryd.pinned (.plain (OpenSpec.ofChange Rows.fuseCancelsSpec)) Rows.fuseCancelsCard :=
  Claim7.holds_tied_plain_at .later [] [.data, .data, .pinned] true (true, "8fb316f5ff7554be16da48bf4668a02c6c874877236834196521f490ba2e0f73") false
    over (fun _ h => by cases h) (by kernel_rfl) (fun _ h => by cases h) fuseCancels_row_tie rfl ⟨rfl, rfl⟩ (by kernel_rfl) rfl
    (fun f fn hf hfn => by
      obtain rfl : f = 5 := Option.some.inj ((show Tryd.prog.funcNamed "epitome/epitomelaw10.FuseCancels" = some 5 by kernel_rfl).symm.trans hf) |>.symm
      obtain rfl : fn = Tryd.f5 := (Option.some.inj (Tryd.func5.symm.trans hfn)).symm
      exact ⟨by kernel_rfl, fun j t ht => by
        rw [Tryd.params5] at ht
        match j, ht with
        | 0, ht =>
          obtain rfl : t = 9 := by simpa using ht.symm
          exact (show Tryd.prog.wantsStandIn 9 = false by kernel_rfl)
        | 1, ht =>
          obtain rfl : t = 5 := by simpa using ht.symm
          exact (show Tryd.prog.wantsStandIn 5 = false by kernel_rfl)
        | 2, ht =>
          obtain rfl : t = 5 := by simpa using ht.symm
          exact (show Tryd.prog.wantsStandIn 5 = false by kernel_rfl)
        | j + 3, ht => simp at ht⟩)
    (by kernel_rfl)
theorem proved : Rows.FuseCancelsCardSaid := card
end Go.Proofs.YthhgobiaecehbaaDoor.fuseCancels
namespace Go.Proofs.YthhgobiaecehbaaDoor
theorem fuseCancels_holds : Rows.FuseCancelsCardSaid := fuseCancels.proved
#print axioms fuseCancels_holds
end Go.Proofs.YthhgobiaecehbaaDoor
end
