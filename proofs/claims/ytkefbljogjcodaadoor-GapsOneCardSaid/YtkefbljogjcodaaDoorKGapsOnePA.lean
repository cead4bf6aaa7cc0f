import Derived.Test.YtkefbljogjcodaaDoorKCGapsOneC
import Derived.Test.YtkefbljogjcodaaDoorKCGapsOnePA
import Derived.Below
import Derived.Deep.Draws
import Derived.Deep.AppendLies
import Derived.Maps.AppendAt
import Derived.OwnWalk
import Derived.Laws.BytesArg
import Derived.Laws.MakeOwn
import Derived.Laws.OwnMore
import Derived.Deep.OwnRows
import Derived.Tactics
import Derived.Lib.ConvBytes
import Derived.Laws.Slices
import Derived.WalkKit
import Derived.KernelRfl
import Derived.RowKit3
import Derived.Deep.LoopGhost
import Derived.Deep.QuietTactic
import Derived.BigQuiet
import Derived.WideLaws
import Derived.Deep.DeepCutAuto
import Derived.Deep.CutBlock
import Derived.Deep.RegionHeld3
import Derived.Laws.Rows
import Derived.Lib.AppendStr
import Derived.ArgAppend
import Derived.Laws.IdiomCopy
import Derived.RowKit
import Derived.OrdersHeld
import Derived.Laws.BitsLemmas
import Derived.Laws.StructEq
import Derived.Test.YtkefbljogjcodaaDoorProg
import Derived.Handy
import Derived.Shelf.Unicode.DecodeSlow
import Derived.Ground.NamesProg
import Derived.Shelf.Unicode.ValidAny
import Derived.Laws.RangeString
import Derived.Laws.RangeAny
import Derived.Lib.RuneCount
import Derived.Laws.IdiomStrings
import Derived.Laws.Cover4
import Derived.ProofKit
import Derived.OpenShut
import Derived.ShutString
import Derived.ChangeOld
import Derived.SizedLaws
import Derived.Lib.ValidLaws
import Derived.Test.YtkefbljogjcodaaDoorRows
import Derived.Lib.LaidU8T
import Derived.Lib.LaidIn
import Derived.LaidLaws
import Derived.Test.YtkefbljogjcodaaDoorTie
import Derived.Test.YtkefbljogjcodaaDoorCards
import Derived.Carry
import Derived.ChangeSame
import Derived.ChangeVars
import Derived.JoinedOf
import Derived.SevenTiedAt
section
namespace Go.Proofs.YtkefbljogjcodaaDoor.F
open Go.RowKit Go.Proofs.YtkefbljogjcodaaDoorW.PrintWords Go.Proofs.YtkefbljogjcodaaDoorW.PrintLast Go.Proofs.YtkefbljogjcodaaDoorW.PrintMore
attribute [local go_sem] max2_int min2_int max_two min_two max_three min_three max_four min_four cell_setCell_isSome
set_option linter.unusedVariables false
set_option linter.unusedSimpArgs false
def epitomelaw06_GapsOne.Pure : Prop := ∀ (a0 : ByteArray) (a1_0 : Int) (a1_1 : Int) (a1_2 : Int), a0.size ≤ maxLen → (Lit.int .u8 a1_0).wf = true → (Lit.int .u8 a1_1).wf = true → (Lit.int .u8 a1_2).wf = true → ∃ k, epitomelaw06_GapsOne.f k a0 a1_0 a1_1 a1_2 = some true
end Go.Proofs.YtkefbljogjcodaaDoor.F
end
section
namespace Go.Proofs.YtkefbljogjcodaaDoor.F
open Go.RowKit Go.Proofs.YtkefbljogjcodaaDoorW.PrintWords Go.Proofs.YtkefbljogjcodaaDoorW.PrintLast Go.Proofs.YtkefbljogjcodaaDoorW.PrintMore
set_option linter.unusedVariables false
set_option linter.unusedSimpArgs false
def oneUs (a : Nat) (t : List Int) (d e : Nat) : List Un := [.keep a, .put t, .drop d, .keep e]
theorem one_gp (a : Nat) (t : List Int) (d e : Nat) : gpP (exU (oneUs a t d e)) = List.replicate a [] ++ t :: List.replicate (d + e) [] ∧ gpG (exU (oneUs a t d e)) = List.replicate a false ++ (List.replicate d true ++ List.replicate e false) := by
  have hx : exU (oneUs a t d e) = List.replicate a .k ++ (t.map .p ++ (List.replicate d .d ++ (List.replicate e .k ++ []))) := by
    simp [oneUs, exU, Un.ex]
  rw [hx]
  refine ⟨?_, ?_⟩
  · rw [gpP_keep, gpP_put, gpP_drop, gpP_keep]
    have : List.replicate d ([] : List Int) ++ (List.replicate e [] ++ gpP []) = [] :: List.replicate (d + e) [] := by
      rw [show gpP [] = [[]] from rfl, ← List.append_assoc, List.replicate_append_replicate, ← List.replicate_succ, ← List.replicate_succ']
    rw [this]
    simp [preq]
  · rw [gpG_keep, gpG_put, gpG_drop, gpG_keep, show gpG [] = [] from rfl, List.append_nil]
theorem one_ok (a : Nat) (t : List Int) (d e : Nat) (ht : Runes t) (htl : t.length ≤ 100) (h : a + d + e ≤ 100) : Ok (oneUs a t d e) := by
  refine ⟨?_, by simp [oneUs], by simp [oneUs, Un.cin]; omega, by simp [oneUs, Un.cout]; omega⟩
  intro u hu
  simp [oneUs] at hu
  rcases hu with rfl | rfl | rfl | rfl
  · trivial
  · exact ht
  · trivial
  · trivial
theorem one_part (a : Nat) (t : List Int) (q i : Nat) (h : i ≤ a + q) : rdOf ByteArray.empty ((List.replicate a [] ++ t :: List.replicate q []).map encT) (i : Int) = if i = a then encT t else ⟨#[]⟩ := by
  unfold rdOf
  rw [Int.toNat_natCast, List.getD_eq_getElem?_getD, List.getElem?_map]
  rcases Nat.lt_trichotomy i a with c | c | c
  · rw [List.getElem?_append_left (by simpa using c), List.getElem?_replicate, if_pos c, if_neg (by omega)]
    rfl
  · subst c
    rw [List.getElem?_append_right (by simp), List.length_replicate, Nat.sub_self, if_pos rfl]
    rfl
  · rw [List.getElem?_append_right (by simp; omega), List.length_replicate, if_neg (by omega)]
    obtain ⟨j, hj⟩ : ∃ j, i - a = j + 1 := ⟨i - a - 1, by omega⟩
    rw [hj, List.getElem?_cons_succ, List.getElem?_replicate, if_pos (by omega)]
    rfl
theorem one_gone (a d e i : Nat) (h : i < a + d + e) : rdOf false (List.replicate a false ++ (List.replicate d true ++ List.replicate e false)) (i : Int) = (decide (a ≤ i) && decide (i < a + d)) := by
  unfold rdOf
  rw [Int.toNat_natCast, List.getD_eq_getElem?_getD]
  rcases Nat.lt_or_ge i a with c | c
  · rw [List.getElem?_append_left (by simpa using c), List.getElem?_replicate, if_pos c, decide_eq_false (by omega)]
    rfl
  · rw [List.getElem?_append_right (by simpa using c), List.length_replicate, decide_eq_true c]
    rcases Nat.lt_or_ge (i - a) d with c2 | c2
    · rw [List.getElem?_append_left (by simpa using c2), List.getElem?_replicate, if_pos c2, decide_eq_true (by omega)]
      rfl
    · rw [List.getElem?_append_right (by simpa using c2), List.length_replicate, List.getElem?_replicate, if_pos (by omega), decide_eq_false (by omega)]
      rfl
theorem one_loop (t : List Int) (n a d e : Nat) (hn : n = a + d + e) (hn2 : n ≤ 63) : ∀ (c i : Nat), i + c = n + 1 →
    Ev (fun k => epitomelaw06_GapsOne.l0 k (encT t) (n : Int) (a : Int) (d : Int) (i : Int) ((List.replicate a [] ++ t :: List.replicate (d + e) []).map encT) (List.replicate a false ++ (List.replicate d true ++ List.replicate e false))) true
  | 0, i, h => by
    refine Ev.step (f := fun _ => some true) (fun k => ?_) (Ev.now _)
    rw [epitomelaw06_GapsOne.l0, if_neg (by omega)]
  | c + 1, i, h => by
    have ih := one_loop t n a d e hn hn2 c (i + 1) (by omega)
    have hp := one_part a t (d + e) i (by omega)
    have hlp : (((List.replicate a [] ++ t :: List.replicate (d + e) []).map encT).length : Int) = (n : Int) + 1 := by simp; omega
    have hlg : ((List.replicate a false ++ (List.replicate d true ++ List.replicate e false)).length : Int) = (n : Int) := by simp; omega
    generalize hP : (List.replicate a [] ++ t :: List.replicate (d + e) []).map encT = P at *
    generalize hG : List.replicate a false ++ (List.replicate d true ++ List.replicate e false) = G at *
    have hw : wrap64 ((i : Int) + 1) = ((i + 1 : Nat) : Int) := w64_succ _ (by omega)
    have hw2 : wrap64 ((a : Int) + (d : Int)) = ((a + d : Nat) : Int) := by rw [w64 (by omega) (by omega)]; omega
    have hemp : (⟨#[]⟩ : ByteArray).toList = [] := by rw [ByteArray.toList_eq]
    -- what stands behind the test of the text
    have gone : ∀ {g : Nat → Option Bool}, (∀ k, g k = (if (i : Int) < (n : Int) then (if (i : Int) < (G.length : Int) then (if (i : Int) ≥ (a : Int) then (if ((rdOf false G (i : Int)) != (decide ((i : Int) < (wrap64 ((a : Int) + (d : Int)))))) = true then (some false) else (epitomelaw06_GapsOne.l0 k (encT t) (n : Int) (a : Int) (d : Int) (wrap64 ((i : Int) + 1)) P G)) else (if ((rdOf false G (i : Int)) != false) = true then (some false) else (epitomelaw06_GapsOne.l0 k (encT t) (n : Int) (a : Int) (d : Int) (wrap64 ((i : Int) + 1)) P G))) else (none)) else (epitomelaw06_GapsOne.l0 k (encT t) (n : Int) (a : Int) (d : Int) (wrap64 ((i : Int) + 1)) P G))) → Ev g true := by
      intro g hg
      refine Ev.congr hg ?_
      rw [hw, hw2]
      by_cases c1 : i < n
      · have hgo := one_gone a d e i (by omega)
        rw [hG] at hgo
        rw [hgo]
        refine ev_if_pos (by omega) (ev_if_pos (by omega) ?_)
        by_cases c2 : a ≤ i
        · refine ev_if_pos (by omega) (ev_if_neg ?_ ih)
          rw [decide_eq_true c2, Bool.true_and]
          simp
          omega
        · refine ev_if_neg (by omega) (ev_if_neg ?_ ih)
          rw [decide_eq_false c2]
          simp
      · exact ev_if_neg (by omega) ih
    refine Ev.step (f := fun k => _) (fun k => by rw [epitomelaw06_GapsOne.l0, if_pos (by omega), if_pos (by omega), if_pos (by omega), hp]) ?_
    by_cases c1 : i = a
    · subst c1
      rw [if_pos rfl]
      refine ev_if_neg (by simp) (ev_if_pos rfl ?_)
      exact gone (fun k => rfl)
    · rw [if_neg c1, hemp]
      by_cases c2 : (encT t).toList = []
      · refine ev_if_pos ?_ (ev_if_pos c2 (ev_if_neg (by omega) (ev_if_pos rfl (gone (fun k => rfl)))))
        rw [c2]
        simp
        omega
      · refine ev_if_neg ?_ (ev_if_neg (by omega) (ev_if_pos rfl (gone (fun k => rfl))))
        have h1 : ((i : Int) == (a : Int)) = false := by simp; omega
        have h2 : (([] : List UInt8) == (encT t).toList) = false := by
          cases hq : (encT t).toList with
          | nil => exact absurd hq c2
          | cons x y => rfl
        rw [h1, h2]
        simp
theorem tmod_nat (x : Int) (m : Nat) (hx : 0 ≤ x) (hm : 0 < m) : ∃ r : Nat, r < m ∧ Int.tmod x (m : Int) = (r : Int) := by
  have h1 : 0 ≤ Int.tmod x (m : Int) := Int.tmod_nonneg _ hx
  have h2 : Int.tmod x (m : Int) < (m : Int) := Int.tmod_lt_of_pos _ (by omega)
  exact ⟨(Int.tmod x (m : Int)).toNat, by omega, by omega⟩
theorem one_sub (n a d : Nat) (ha : a ≤ n) (hd : d < n - a + 1) (hn : n ≤ 63) : wrap64 (((n - a : Nat) : Int) - (d : Int)) = ((n - a - d : Nat) : Int) := by
  have h : ((n - a : Nat) : Int) - (d : Int) = ((n - a - d : Nat) : Int) := by omega
  rw [h]
  exact w64 (by omega) (by omega)
set_option maxHeartbeats 4000000 in
theorem Pure.GapsOne : epitomelaw06_GapsOne.Pure := by
  intro a0 x0 x1 x2 h0 b0 b1 b2
  apply Ev.rounds
  obtain ⟨m1, m2, t, ht, htl, -, hf⟩ := fit01_head a0 20 h0 (by omega)
  obtain ⟨n, hn, en⟩ := rem64 x0 b0
  have EN := Aside0.mk en
  clear en
  have r1 := wf_u8 b1
  have r2 := wf_u8 b2
  have W1 : Aside0 (wrap64 x1 = x1) := ⟨w64 (by omega) (by omega)⟩
  have W2 : Aside0 (wrap64 x2 = x2) := ⟨w64 (by omega) (by omega)⟩
  have WN : Aside0 (wrap64 ((n : Int) + 1) = ((n + 1 : Nat) : Int)) := ⟨w64_succ _ (by omega)⟩
  have q1 := tmod_nat x1 (n + 1) r1.1 (Nat.succ_pos _)
  obtain ⟨a, q1⟩ := q1
  have ha : a ≤ n := Nat.le_of_lt_succ q1.1
  have EA := Aside0.mk q1.2
  clear q1
  have WA : Aside0 (wrap64 ((n : Int) - (a : Int)) = ((n - a : Nat) : Int)) := ⟨by rw [w64 (by omega) (by omega)]; omega⟩
  have WB : Aside0 (wrap64 (((n - a : Nat) : Int) + 1) = ((n - a + 1 : Nat) : Int)) := ⟨w64_succ _ (by omega)⟩
  have q2 := tmod_nat x2 (n - a + 1) r2.1 (Nat.succ_pos _)
  obtain ⟨d, q2⟩ := q2
  have hd := q2.1
  have ED := Aside0.mk q2.2
  clear q2
  have WE := Aside0.mk (one_sub n a d ha hd hn)
  have ok := one_ok a t d (n - a - d) ht (by omega) (by omega)
  have hgp := one_gp a t d (n - a - d)
  have hg := gapsOf_is ok (by simp [oneUs, Un.cin]; omega)
  rw [hgp.1, hgp.2] at hg
  unfold epitomelaw06_GapsOne.f
  rw [EN.out, W1.out, W2.out, WN.out, EA.out, WA.out, WB.out, ED.out, WE.out]
  refine Ev.bind shown06 (ev_if_pos m1 (ev_if_pos m2 ?_))
  refine Ev.bind hf ?_
  refine ev_if_neg (by omega) (ev_if_neg (by omega) ?_)
  have hsp : ([(⟨1, (a : Int), (⟨#[]⟩ : ByteArray)⟩ : Sp), (⟨2, 0, encT t⟩ : Sp), (⟨3, (d : Int), (⟨#[]⟩ : ByteArray)⟩ : Sp), (⟨1, ((n - a - d : Nat) : Int), (⟨#[]⟩ : ByteArray)⟩ : Sp)] : List Sp) = (oneUs a t d (n - a - d)).map Un.sp := rfl
  rw [hsp]
  refine Ev.bind hg ?_
  refine ev_if_pos rfl (ev_if_pos rfl (ev_if_pos (by simp; omega) ?_))
  refine Ev.step (f := fun k => epitomelaw06_GapsOne.l0 k (encT t) (n : Int) (a : Int) (d : Int) 0 ((List.replicate a [] ++ t :: List.replicate (d + (n - a - d)) []).map encT) (List.replicate a false ++ (List.replicate d true ++ List.replicate (n - a - d) false))) (fun k => ?_) ?_
  · rw [epitomelaw06_GapsOne.j0, if_neg (by simp; omega)]
  · exact one_loop t n a d (n - a - d) (by omega) hn (n + 1) 0 (by omega)
end Go.Proofs.YtkefbljogjcodaaDoor.F
end
section
namespace Go.Proofs.YtkefbljogjcodaaDoor.gapsOne
open Go.ChangeShapes Go.WideShapes Go.ChangeAt Go.RowKit Go.Proofs.YtkefbljogjcodaaDoor.F
open Go.Proofs.YtkefbljogjcodaaDoorW.PrintWords
open Go.ChangeMaps (open_string shut_string)
set_option linter.unusedVariables false
theorem own : ownKnob Tryd.prog.godebug = none := by kernel_rfl
theorem laidOut : laidOutB Tryd.prog = true := by kernel_rfl
theorem laid_met (os : Os) (args : Array Value) : laidMetH Tryd.prog Rows.gapsOneRow.laid ((laidWorld os).forCall (fun _ _ => 0) ⟨#[], args, []⟩).memory :=
  (LaidIn.of_run (l := Rows.gapsOneRow.laid) [2, 0, 1] 8 (by kernel_rfl) (by kernel_rfl) (by kernel_rfl) (by kernel_rfl)).met
set_option maxRecDepth 100000 in
theorem lifted (os : Os) (started : os.Started) (H : Type) (enc : TypeId × Value → H) :
    ReturnsInHanded {} Tryd.checked os 11 .any (fun w args => (Rows.gapsOneSpec.pre enc Tryd.prog Tryd.f11 [] false w args ∧ laidMetH Tryd.prog Rows.gapsOneRow.laid w) ∧ sizedMet enc Tryd.prog Tryd.f11 (OpenSpec.ofChange Rows.gapsOneSpec) false w args) (Rows.gapsOneSpec.post enc Tryd.prog Tryd.f11 false true false false) := by
  refine returnsInHanded_of_change_and (C := Tryd.checked) (X := (fun w _ => laidMetH Tryd.prog Rows.gapsOneRow.laid w)) (fun _ _ _ hh h => h.of_heap hh) own started (by kernel_rfl) Tryd.func11
    (ChangeSpec.witness_at (enc := enc) (C := Tryd.checked) (os := os) (X := (fun w _ => laidMetH Tryd.prog Rows.gapsOneRow.laid w)) false (laidWorld os) #[.string ByteArray.empty, .agg #[.int .u8 0, .int .u8 0, .int .u8 0]] 8 rfl (by kernel_rfl) (by kernel_rfl) (by kernel_rfl) (by kernel_rfl) (by kernel_rfl) (laid_met os _)) ?_
  intro W base args ds gs before hval0 hW _ _ hL _
  have hG : Glob W := glob_of_reads (Lib.laidMet.reads hL (.tail _ (.tail _ (.head _)))) (Lib.laidMet.reads hL (.head _)) (Lib.laidMet.reads hL (.tail _ (.head _)))
  have hval : ∀ (j : Nat) t v, Tryd.f11.params[j]? = some t → args[j]? = some v → Value.okWide Tryd.prog W .any base t v := hval0
  have hW' := hW
  obtain ⟨p, q, hA0, hV, rfl, hfz, hnd⟩ := hW
  have hA : DataW.TrodAll enc Tryd.prog W 0 (fun _ => true) true Tryd.f11.params.toList args.toList ds p := hA0
  rw [Tryd.params11] at hA hval
  obtain ⟨v0, vs0, d0, ds0, p0, q0, hargs, rfl, rfl, h0, r0⟩ := trodAll_cons hA
  obtain ⟨v1, vs1, d1, ds1, p1, q1, rfl, rfl, rfl, h1, r1⟩ := trodAll_cons r0
  obtain ⟨rfl, rfl, rfl⟩ := trodAll_nil r1
  obtain rfl : args = #[v0, v1] := by cases args; simp_all
  obtain ⟨rfl, rfl⟩ := trodVars_none hV
  obtain ⟨a0, rfl, rfl, rfl, hv0⟩ := open_string Tryd.underlying9 (hval 0 9 v0 rfl rfl) h0
  obtain ⟨cs1, rfl⟩ := agg_array Tryd.underlying59 (hval 1 59 v1 rfl rfl)
  have k1 := h1
  have lt1 : ∀ x ∈ p1, x.block < W.heap.size := by obtain ⟨m, hm⟩ := k1; exact DataW.trod_lt m _ _ _ hm
  obtain ⟨x1, z1, hv1⟩ : ∃ x, k59.K W x cs1.toList ∧ V59 x := by
    obtain ⟨fuel, hf⟩ := h1
    exact opens59 enc W _ _ _ _ _ _ hf
  obtain ⟨c1_0, w1_0, e1_0, h1_0, ⟨c1_1, w1_1, e1_1, h1_1, h1_2⟩⟩ := z1
  have ec1_0 := h1_0
  have ec1_1 := h1_1
  have ec1_2 := h1_2
  obtain rfl : cs1 = #[.int .u8 x1.f0, .int .u8 x1.f1, .int .u8 x1.f2] := by
    apply arr_of (l := [.int .u8 x1.f0, .int .u8 x1.f1, .int .u8 x1.f2])
    rw [e1_0, ec1_0, e1_1, ec1_1, ec1_2]
    rfl
  obtain ⟨b1_0, b1_1, b1_2⟩ := x1
  obtain ⟨k, h⟩ := Pure.GapsOne a0 b1_0 b1_1 b1_2 hv0 (by exact hv1.1) (by exact hv1.2.1) (by exact hv1.2.2)
  refine (epitomelaw06_GapsOne.calls k a0 b1_0 b1_1 b1_2 true ⟨rfl⟩ W hG  h).mono ?_
  rintro e W' ⟨rfl, hd⟩
  have bel : Below W.heap.size W W' := hd
  exact ⟨_, rfl, _, _, _, [], _, [], hW', trodAll_mk1 (shut_bool Tryd.underlying4 _), (trodAll_cons_mk (shut_string Tryd.underlying9 hv0) (trodAll_cons_mk (Below.trod laidOut (by kernel_rfl) (of_decide_eq_true (by kernel_rfl)) k1 bel lt1) trodAll_mk0)), rfl, bel.frame _, fun h => by cases h⟩
theorem over : Rows.gapsOneRow.holds Tryd.pinned (OpenSpec.ofChange Rows.gapsOneSpec) :=
  OpenClaim.holds_of_wide 11 Tryd.f11 rfl rfl rfl rfl rfl rfl rfl ⟨rfl, rfl, rfl, rfl, rfl⟩ rfl rfl rfl rfl rfl (by kernel_rfl) Tryd.func11 (by kernel_rfl)
    (of_decide_eq_true (by kernel_rfl)) (by unfold Func.isWrapper; first | (rw [if_pos (by decide +kernel)]; kernel_rfl) | (rw [if_neg (by decide +kernel)]; exact ⟨rfl, rfl⟩))
    (fun os started H enc _ => lifted os started H enc)
theorem card : Claim7.holds Tryd.pinned (.plain (OpenSpec.ofChange Rows.gapsOneSpec)) Rows.gapsOneCard :=
  Claim7.holds_tied_plain_at .later [] [.data, .data, .pinned] true (true, "cb220046ee5715416f27fb58bb862ce5d799745ed337233484527cd9cd290028") false
    over (fun _ h => by cases h) (by kernel_rfl) (fun _ h => by cases h) gapsOne_row_tie rfl ⟨rfl, rfl⟩ (by kernel_rfl) rfl
    (fun f fn hf hfn => by
      obtain rfl : f = 11 := Option.some.inj ((show Tryd.prog.funcNamed "epitome/epitomelaw06.GapsOne" = some 11 by kernel_rfl).symm.trans hf) |>.symm
      obtain rfl : fn = Tryd.f11 := (Option.some.inj (Tryd.func11.symm.trans hfn)).symm
      exact ⟨by kernel_rfl, fun j t ht => by
        rw [Tryd.params11] at ht
        match j, ht with
        | 0, ht =>
          obtain rfl : t = 9 := by simpa using ht.symm
          exact (show Tryd.prog.wantsStandIn 9 = false by kernel_rfl)
        | 1, ht =>
          obtain rfl : t = 59 := by simpa using ht.symm
          exact (show Tryd.prog.wantsStandIn 59 = false by kernel_rfl)
        | j + 2, ht => simp at ht⟩)
    (by kernel_rfl)
theorem proved : Rows.GapsOneCardSaid := card
end Go.Proofs.YtkefbljogjcodaaDoor.gapsOne
namespace Go.Proofs.YtkefbljogjcodaaDoor
theorem gapsOne_holds : Rows.GapsOneCardSaid := gapsOne.proved
#print axioms gapsOne_holds
end Go.Proofs.YtkefbljogjcodaaDoor
end
