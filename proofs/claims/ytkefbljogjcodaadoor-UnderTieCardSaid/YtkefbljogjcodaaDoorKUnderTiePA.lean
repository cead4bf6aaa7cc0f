import Derived.Test.YtkefbljogjcodaaDoorKCUnderTieD
import Derived.Test.YtkefbljogjcodaaDoorKCUnderTiePA
import Derived.Below
import Derived.Deep.Draws
import Derived.Deep.AppendLies
import Derived.Maps.AppendAt
import Derived.OwnWalk
import Derived.Laws.BytesArg
import Derived.Laws.MakeOwn
import Derived.Laws.OwnMore
import Derived.Deep.OwnRows
import Derived.Tactics
import Derived.Lib.ConvBytes
import Derived.Laws.Slices
import Derived.WalkKit
import Derived.KernelRfl
import Derived.RowKit3
import Derived.Deep.LoopGhost
import Derived.Deep.QuietTactic
import Derived.BigQuiet
import Derived.WideLaws
import Derived.Deep.DeepCutAuto
import Derived.Deep.CutBlock
import Derived.Deep.RegionHeld3
import Derived.Laws.Rows
import Derived.Lib.AppendStr
import Derived.ArgAppend
import Derived.Laws.IdiomCopy
import Derived.RowKit
import Derived.OrdersHeld
import Derived.Laws.BitsLemmas
import Derived.Laws.StructEq
import Derived.Test.YtkefbljogjcodaaDoorProg
import Derived.Handy
import Derived.Shelf.Unicode.DecodeSlow
import Derived.Ground.NamesProg
import Derived.Shelf.Unicode.ValidAny
import Derived.Laws.RangeString
import Derived.Laws.RangeAny
import Derived.Lib.RuneCount
import Derived.Laws.IdiomStrings
import Derived.Laws.Cover4
import Derived.Great.BuildSlice
import Derived.Defers
import Derived.Laws.EntriesVeiled
import Derived.ProofKit
import Derived.OpenShut
import Derived.ShutString
import Derived.ChangeOld
import Derived.SizedLaws
import Derived.Lib.ValidLaws
import Derived.Test.YtkefbljogjcodaaDoorRows
import Derived.Lib.LaidU8T
import Derived.Lib.LaidIn
import Derived.LaidLaws
import Derived.Test.YtkefbljogjcodaaDoorTie
import Derived.Test.YtkefbljogjcodaaDoorCards
import Derived.Carry
import Derived.ChangeSame
import Derived.ChangeVars
import Derived.JoinedOf
import Derived.SevenTiedAt
section
namespace Go.Proofs.YtkefbljogjcodaaDoor.F
open Go.RowKit Go.Proofs.YtkefbljogjcodaaDoorW.PrintWords Go.Proofs.YtkefbljogjcodaaDoorW.PrintLast Go.Proofs.YtkefbljogjcodaaDoorW.PrintMore
attribute [local go_sem] max2_int min2_int max_two min_two max_three min_three max_four min_four cell_setCell_isSome
set_option linter.unusedVariables false
set_option linter.unusedSimpArgs false
def epitomelaw12_UnderTie.Pure : Prop := ∀ (a0 : ByteArray) (a1 : ByteArray) (a2_0 : Int) (a2_1 : Int), a0.size ≤ maxLen → a1.size ≤ maxLen → (Lit.int .u8 a2_0).wf = true → (Lit.int .u8 a2_1).wf = true → ∃ k, epitomelaw12_UnderTie.f k a0 a1 a2_0 a2_1 = some true
end Go.Proofs.YtkefbljogjcodaaDoor.F
end
section
namespace Go.Proofs.YtkefbljogjcodaaDoor.F
open Go.RowKit Go.Proofs.YtkefbljogjcodaaDoorW.PrintWords Go.Proofs.YtkefbljogjcodaaDoorW.PrintLast Go.Proofs.YtkefbljogjcodaaDoorW.PrintMore
set_option linter.unusedVariables false
set_option linter.unusedSimpArgs false
theorem over_tie (i j : Nat) (u v : List Int) : overU (List.replicate i .k ++ (v.map .p ++ List.replicate j .k)) (List.replicate i .k ++ (u.map .p ++ List.replicate j .k)) = List.replicate (i + u.length) .k ++ (v.map .p ++ List.replicate j .k) := by
  have h := over_keep_right (List.replicate j .k)
  rw [keeps_in] at h
  rw [over_kk, over_puts, over_putl _ _ _ (noP_rep _), h, ← List.append_assoc, List.replicate_append_replicate]
theorem under_tie (i j : Nat) (u v : List Int) : underU (List.replicate i .k ++ (u.map .p ++ List.replicate j .k)) (List.replicate i .k ++ (v.map .p ++ List.replicate j .k)) = List.replicate i .k ++ (u.map .p ++ List.replicate (v.length + j) .k) := by
  have h := under_keep_right (List.replicate j .k)
  rw [keeps_in] at h
  rw [under_kk, under_puts, under_putl _ _ _ (noP_rep _), h, List.replicate_append_replicate]
theorem ok_put2 {i j : Nat} {t : List Int} (ht : Runes t) (h1 : i ≤ 1000) (h2 : j ≤ 1000) (h3 : t.length ≤ 1000) : Ok [.keep i, .put t, .keep j] := by
  refine ⟨fun u hu => ?_, by simp, by simp [Un.cin]; omega, by simp [Un.cout]; omega⟩
  simp only [List.mem_cons, List.mem_nil_iff, or_false] at hu
  rcases hu with rfl | rfl | rfl
  · trivial
  · exact ht
  · trivial
theorem ex_put2 (i j : Nat) (t : List Int) : exU [.keep i, .put t, .keep j] = List.replicate i .k ++ (t.map .p ++ List.replicate j .k) := by simp [exU, Un.ex]
theorem tie_1 {n k : Nat} (h : k ≤ n) (hn : n ≤ 1000) : wrap64 ((n : Int) - (k : Int)) = ((n - k : Nat) : Int) := by rw [w64 (by omega) (by omega)]; omega
theorem tie_2 {n k : Nat} (h : k ≤ 1000) (hn : n ≤ 1000) : wrap64 ((k : Int) + (n : Int)) = ((k + n : Nat) : Int) := by rw [w64 (by omega) (by omega)]; omega
theorem tie_3 {v n k : Nat} (h : k ≤ n) (hn : n ≤ 1000) (hv : v ≤ 1000) : wrap64 (wrap64 ((v : Int) + (n : Int)) - (k : Int)) = ((v + (n - k) : Nat) : Int) := by
  have e : wrap64 ((v : Int) + (n : Int)) = ((v + n : Nat) : Int) := tie_2 hv hn
  rw [e, w64 (by omega) (by omega)]
  omega
theorem Pure.UnderTie : epitomelaw12_UnderTie.Pure := by
  intro a0 a1 a b h0 h1 h2 h3
  apply Ev.rounds
  obtain ⟨n, hn, en⟩ := rem64 a h2
  have b2 := wf_u8 h3
  obtain ⟨kk, hkk, ek⟩ := cut_place b n b2.1
  have ew : wrap64 b = b := w64 (by omega) (by omega)
  have en1 : wrap64 ((n : Int) + 1) = ((n + 1 : Nat) : Int) := w64_succ n (by omega)
  unfold epitomelaw12_UnderTie.f
  rw [en, en1, ew, ek, tie_1 hkk (by omega)]
  clear en en1 ew ek
  have mk : ∀ s : ByteArray, ∃ t : List Int, Ev (fun k => epitomeref01_Fit.f k (s.extract 0 (mn (s.size : Int) 20).toNat)) (encT t) ∧ Runes t ∧ t.length ≤ 20 := by
    intro s
    have hmn := mn_le (s.size : Int) 20
    have hex := extract_size s (mn (s.size : Int) 20).toNat
    exact ⟨_, fit01_is (s.extract 0 (mn (s.size : Int) 20).toNat) (by omega), fun r hr => alpha_rune r (fitRunes_mem _ r hr), by rw [fitRunes_length]; omega⟩
  obtain ⟨u, hu, ru, lu⟩ := mk a0
  obtain ⟨v, hv, rv, lv⟩ := mk a1
  have m0 := mn_le (a0.size : Int) 20
  have m1 := mn_le (a1.size : Int) 20
  have okU := ok_put2 (i := kk) (j := n - kk) ru (by omega) (by omega) (by omega)
  have okV := ok_put2 (i := kk) (j := n - kk) rv (by omega) (by omega) (by omega)
  have okP := ok_put2 (i := kk + u.length) (j := n - kk) rv (by omega) (by omega) (by omega)
  have okQ := ok_put2 (i := kk) (j := v.length + (n - kk)) ru (by omega) (by omega) (by omega)
  have oU : ([Un.keep kk, .put u, .keep (n - kk)].map Un.cout).sum ≤ 4194304 := by simp [Un.cout]; omega
  have oV : ([Un.keep kk, .put v, .keep (n - kk)].map Un.cout).sum ≤ 4194304 := by simp [Un.cout]; omega
  have hc : ([Un.keep kk, .put u, .keep (n - kk)].map Un.cin).sum = ([Un.keep kk, .put v, .keep (n - kk)].map Un.cin).sum := by simp [Un.cin]
  have eO := over_is okV okU oV oU hc.symm
  have eU := under_is okU okV oU oV hc
  rw [ex_put2, ex_put2, over_tie, ← ex_put2] at eO
  rw [ex_put2, ex_put2, under_tie, ← ex_put2] at eU
  have lP := canon_less [Un.keep (kk + u.length), .put v, .keep (n - kk)]
  have lQ := canon_less [Un.keep kk, .put u, .keep (v.length + (n - kk))]
  simp only [List.length_cons, List.length_nil] at lP lQ
  have sP := same_is ((canon (exU [Un.keep (kk + u.length), .put v, .keep (n - kk)])).map Un.sp) ((canon (exU [Un.keep (kk + u.length), .put v, .keep (n - kk)])).map Un.sp) (by rw [List.length_map]; omega)
  have sQ := same_is ((canon (exU [Un.keep kk, .put u, .keep (v.length + (n - kk))])).map Un.sp) ((canon (exU [Un.keep kk, .put u, .keep (v.length + (n - kk))])).map Un.sp) (by rw [List.length_map]; omega)
  rw [decide_eq_true rfl] at sP sQ
  refine Ev.bind shown12 (ev_if_neg (by omega) (ev_if_pos (by omega) (ev_if_pos (by omega) (Ev.bind hu (ev_if_pos (by omega) (ev_if_pos (by omega) (Ev.bind hv ?_)))))))
  refine ev_some rfl (ev_some rfl (Ev.bind eO (Ev.bind eU (ev_some (count_enc u ru (by omega)) (ev_some (count_enc v rv (by omega)) ?_)))))
  refine ev_if_pos rfl (ev_if_pos rfl (ev_if_pos rfl ?_))
  rw [tie_2 (by omega) (by omega), tie_3 hkk (by omega) (by omega)]
  exact Ev.bind (normalOk_is okP) (Ev.bind sP (ev_if_pos rfl (Ev.bind (normalOk_is okQ) (Ev.bind sQ (Ev.now true)))))
end Go.Proofs.YtkefbljogjcodaaDoor.F
end
section
namespace Go.Proofs.YtkefbljogjcodaaDoor.underTie
open Go.ChangeShapes Go.WideShapes Go.ChangeAt Go.RowKit Go.Proofs.YtkefbljogjcodaaDoor.F
open Go.Proofs.YtkefbljogjcodaaDoorW.PrintWords
open Go.ChangeMaps (open_string shut_string)
set_option linter.unusedVariables false
theorem own : ownKnob Tryd.prog.godebug = none := by kernel_rfl
theorem laidOut : laidOutB Tryd.prog = true := by kernel_rfl
theorem laid_met (os : Os) (args : Array Value) : laidMetH Tryd.prog Rows.underTieRow.laid ((laidWorld os).forCall (fun _ _ => 0) ⟨#[], args, []⟩).memory :=
  (LaidIn.of_run (l := Rows.underTieRow.laid) [2, 0, 1] 8 (by kernel_rfl) (by kernel_rfl) (by kernel_rfl) (by kernel_rfl)).met
set_option maxRecDepth 100000 in
theorem lifted (os : Os) (started : os.Started) (H : Type) (enc : TypeId × Value → H) :
    ReturnsInHanded {} Tryd.checked os 3 .any (fun w args => (Rows.underTieSpec.pre enc Tryd.prog Tryd.f3 [] false w args ∧ laidMetH Tryd.prog Rows.underTieRow.laid w) ∧ sizedMet enc Tryd.prog Tryd.f3 (OpenSpec.ofChange Rows.underTieSpec) false w args) (Rows.underTieSpec.post enc Tryd.prog Tryd.f3 false true false false) := by
  refine returnsInHanded_of_change_and (C := Tryd.checked) (X := (fun w _ => laidMetH Tryd.prog Rows.underTieRow.laid w)) (fun _ _ _ hh h => h.of_heap hh) own started (by kernel_rfl) Tryd.func3
    (ChangeSpec.witness_at (enc := enc) (C := Tryd.checked) (os := os) (X := (fun w _ => laidMetH Tryd.prog Rows.underTieRow.laid w)) false (laidWorld os) #[.string ByteArray.empty, .string ByteArray.empty, .agg #[.int .u8 0, .int .u8 0]] 8 rfl (by kernel_rfl) (by kernel_rfl) (by kernel_rfl) (by kernel_rfl) (by kernel_rfl) (laid_met os _)) ?_
  intro W base args ds gs before hval0 hW _ _ hL _
  have hG : Glob W := glob_of_reads (Lib.laidMet.reads hL (.tail _ (.tail _ (.head _)))) (Lib.laidMet.reads hL (.head _)) (Lib.laidMet.reads hL (.tail _ (.head _)))
  have hval : ∀ (j : Nat) t v, Tryd.f3.params[j]? = some t → args[j]? = some v → Value.okWide Tryd.prog W .any base t v := hval0
  have hW' := hW
  obtain ⟨p, q, hA0, hV, rfl, hfz, hnd⟩ := hW
  have hA : DataW.TrodAll enc Tryd.prog W 0 (fun _ => true) true Tryd.f3.params.toList args.toList ds p := hA0
  rw [Tryd.params3] at hA hval
  obtain ⟨v0, vs0, d0, ds0, p0, q0, hargs, rfl, rfl, h0, r0⟩ := trodAll_cons hA
  obtain ⟨v1, vs1, d1, ds1, p1, q1, rfl, rfl, rfl, h1, r1⟩ := trodAll_cons r0
  obtain ⟨v2, vs2, d2, ds2, p2, q2, rfl, rfl, rfl, h2, r2⟩ := trodAll_cons r1
  obtain ⟨rfl, rfl, rfl⟩ := trodAll_nil r2
  obtain rfl : args = #[v0, v1, v2] := by cases args; simp_all
  obtain ⟨rfl, rfl⟩ := trodVars_none hV
  obtain ⟨a0, rfl, rfl, rfl, hv0⟩ := open_string Tryd.underlying9 (hval 0 9 v0 rfl rfl) h0
  obtain ⟨a1, rfl, rfl, rfl, hv1⟩ := open_string Tryd.underlying9 (hval 1 9 v1 rfl rfl) h1
  obtain ⟨cs2, rfl⟩ := agg_array Tryd.underlying22 (hval 2 22 v2 rfl rfl)
  have k2 := h2
  have lt2 : ∀ x ∈ p2, x.block < W.heap.size := by obtain ⟨m, hm⟩ := k2; exact DataW.trod_lt m _ _ _ hm
  obtain ⟨x2, z2, hv2⟩ : ∃ x, k22.K W x cs2.toList ∧ V22 x := by
    obtain ⟨fuel, hf⟩ := h2
    exact opens22 enc W _ _ _ _ _ _ hf
  obtain ⟨c2_0, w2_0, e2_0, h2_0, h2_1⟩ := z2
  have ec2_0 := h2_0
  have ec2_1 := h2_1
  obtain rfl : cs2 = #[.int .u8 x2.f0, .int .u8 x2.f1] := by
    apply arr_of (l := [.int .u8 x2.f0, .int .u8 x2.f1])
    rw [e2_0, ec2_0, ec2_1]
    rfl
  obtain ⟨b2_0, b2_1⟩ := x2
  obtain ⟨k, h⟩ := Pure.UnderTie a0 a1 b2_0 b2_1 hv0 hv1 (by exact hv2.1) (by exact hv2.2)
  refine (epitomelaw12_UnderTie.calls k a0 a1 b2_0 b2_1 true ⟨rfl⟩ W hG  h).mono ?_
  rintro e W' ⟨rfl, hd⟩
  have bel : Below W.heap.size W W' := hd
  exact ⟨_, rfl, _, _, _, [], _, [], hW', trodAll_mk1 (shut_bool Tryd.underlying4 _), (trodAll_cons_mk (shut_string Tryd.underlying9 hv0) (trodAll_cons_mk (shut_string Tryd.underlying9 hv1) (trodAll_cons_mk (Below.trod laidOut (by kernel_rfl) (of_decide_eq_true (by kernel_rfl)) k2 bel lt2) trodAll_mk0))), rfl, bel.frame _, fun h => by cases h⟩
theorem over : Rows.underTieRow.holds Tryd.pinned (OpenSpec.ofChange Rows.underTieSpec) :=
  OpenClaim.holds_of_wide 3 Tryd.f3 rfl rfl rfl rfl rfl rfl rfl ⟨rfl, rfl, rfl, rfl, rfl⟩ rfl rfl rfl rfl rfl (by kernel_rfl) Tryd.func3 (by kernel_rfl)
    (of_decide_eq_true (by kernel_rfl)) (by unfold Func.isWrapper; first | (rw [if_pos (by decide +kernel)]; kernel_rfl) | (rw [if_neg (by decide +kernel)]; exact ⟨rfl, rfl⟩))
    (fun os started H enc _ => lifted os started H enc)
theorem card : Claim7.holds Tryd.pinned (.plain (OpenSpec.ofChange Rows.underTieSpec)) Rows.underTieCard :=
  Claim7.holds_tied_plain_at .later [] [.data, .data, .pinned] true (true, "cb220046ee5715416f27fb58bb862ce5d799745ed337233484527cd9cd290028") false
    over (fun _ h => by cases h) (by kernel_rfl) (fun _ h => by cases h) underTie_row_tie rfl ⟨rfl, rfl⟩ (by kernel_rfl) rfl
    (fun f fn hf hfn => by
      obtain rfl : f = 3 := Option.some.inj ((show Tryd.prog.funcNamed "epitome/epitomelaw12.UnderTie" = some 3 by kernel_rfl).symm.trans hf) |>.symm
      obtain rfl : fn = Tryd.f3 := (Option.some.inj (Tryd.func3.symm.trans hfn)).symm
      exact ⟨by kernel_rfl, fun j t ht => by
        rw [Tryd.params3] at ht
        match j, ht with
        | 0, ht =>
          obtain rfl : t = 9 := by simpa using ht.symm
          exact (show Tryd.prog.wantsStandIn 9 = false by kernel_rfl)
        | 1, ht =>
          obtain rfl : t = 9 := by simpa using ht.symm
          exact (show Tryd.prog.wantsStandIn 9 = false by kernel_rfl)
        | 2, ht =>
          obtain rfl : t = 22 := by simpa using ht.symm
          exact (show Tryd.prog.wantsStandIn 22 = false by kernel_rfl)
        | j + 3, ht => simp at ht⟩)
    (by kernel_rfl)
theorem proved : Rows.UnderTieCardSaid := card
end Go.Proofs.YtkefbljogjcodaaDoor.underTie
namespace Go.Proofs.YtkefbljogjcodaaDoor
theorem underTie_holds : Rows.UnderTieCardSaid := underTie.proved
#print axioms underTie_holds
end Go.Proofs.YtkefbljogjcodaaDoor
end
