import Derived.Test.YtekjfodfedpioaaDoorKCGE
import Derived.Test.YtekjfodfedpioaaDoorKCGPA
import Derived.Below
import Derived.Deep.Draws
import Derived.Deep.AppendLies
import Derived.Maps.AppendAt
import Derived.OwnWalk
import Derived.Laws.BytesArg
import Derived.Laws.MakeOwn
import Derived.Laws.OwnMore
import Derived.Deep.OwnRows
import Derived.Tactics
import Derived.Lib.ConvBytes
import Derived.Laws.Slices
import Derived.WalkKit
import Derived.KernelRfl
import Derived.RowKit3
import Derived.Deep.LoopGhost
import Derived.Deep.QuietTactic
import Derived.BigQuiet
import Derived.WideLaws
import Derived.Deep.DeepCutAuto
import Derived.Deep.CutBlock
import Derived.Deep.RegionHeld3
import Derived.Laws.Rows
import Derived.Lib.AppendStr
import Derived.ArgAppend
import Derived.Laws.IdiomCopy
import Derived.RowKit
import Derived.OrdersHeld
import Derived.Laws.BitsLemmas
import Derived.Laws.StructEq
import Derived.Test.YtekjfodfedpioaaDoorProg
import Derived.Handy
import Derived.Shelf.Unicode.DecodeSlow
import Derived.Ground.NamesProg
import Derived.Shelf.Unicode.ValidAny
import Derived.Laws.RangeString
import Derived.Laws.RangeAny
import Derived.Lib.RuneCount
import Derived.Laws.IdiomStrings
import Derived.Laws.Cover4
import Derived.Great.BuildSlice
import Derived.RangeFuncNested
import Derived.RangeFuncBound
import Derived.RangeFuncCalls
import Derived.RangeFuncLeaves
import Derived.Shelf.Abstract
import Derived.Shelf.RegionOpen
import Derived.OwnWalkIn
import Derived.TacticsInMore
import Derived.LoopNIn
import Derived.LoopIn
import Derived.Defers
import Derived.ProofKit
import Derived.OpenShut
import Derived.ShutString
import Derived.ChangeOld
import Derived.SizedLaws
import Derived.Lib.ValidLaws
import Derived.Test.YtekjfodfedpioaaDoorRows
import Derived.Lib.LaidU8T
import Derived.Lib.LaidIn
import Derived.LaidLaws
import Derived.Test.YtekjfodfedpioaaDoorTie
import Derived.Test.YtekjfodfedpioaaDoorCards
import Derived.Carry
import Derived.ChangeSame
import Derived.ChangeVars
import Derived.JoinedOf
import Derived.SevenTiedAt
section
namespace Go.Proofs.YtekjfodfedpioaaDoor.F
open Go.RowKit Go.Proofs.YtekjfodfedpioaaDoorW.PrintWords Go.Proofs.YtekjfodfedpioaaDoorW.PrintLast Go.Proofs.YtekjfodfedpioaaDoorW.PrintMore
attribute [local go_sem] max2_int min2_int max_two min_two max_three min_three max_four min_four cell_setCell_isSome
set_option linter.unusedVariables false
set_option linter.unusedSimpArgs false
def epitomelaw09_ComposeGaps.Pure : Prop := ∀ (l0 : List (S55)) (l1 : List (S55)) (a2 : Int), (l0.length ≤ maxLen ∧ ∀ x_ ∈ l0, V55 x_) → (l1.length ≤ maxLen ∧ ∀ x_ ∈ l1, V55 x_) → (Lit.int .u8 a2).wf = true → ∃ k, epitomelaw09_ComposeGaps.f k l0 l1 a2 = some true
end Go.Proofs.YtekjfodfedpioaaDoor.F
end
section
namespace Go.Proofs.YtekjfodfedpioaaDoor.F
open Go.RowKit Go.Proofs.YtekjfodfedpioaaDoorW.PrintWords Go.Proofs.YtekjfodfedpioaaDoorW.PrintLast Go.Proofs.YtekjfodfedpioaaDoorW.PrintMore
set_option linter.unusedVariables false
set_option linter.unusedSimpArgs false
theorem rem31c (x : Int) (h : (Lit.int .u8 x).wf = true) : ∃ n : Nat, n ≤ 30 ∧ wrap64 (Int.tmod x 31) = (n : Int) := by
 have := wf_u8 h
 have h1 : 0 ≤ Int.tmod x 31 := Int.tmod_nonneg _ this.1
 have h2 : Int.tmod x 31 < 31 := Int.tmod_lt_of_pos _ (by decide)
 refine ⟨(Int.tmod x 31).toNat, by omega, ?_⟩
 rw [w64 (by omega) (by omega)]
 omega
theorem Pure.ComposeGaps : epitomelaw09_ComposeGaps.Pure := by
 intro l0 l1 a h0 h1 h2
 apply Ev.rounds
 obtain ⟨n, hn, en⟩ := rem31c a h2
 obtain ⟨us, hf0, f0⟩ := fitB l0 h0.1 h0.2 n (by omega)
 have c0 := f0.cout
 obtain ⟨vs, hf1, f1⟩ := fitB l1 h1.1 h1.2 _ (show (us.map Un.cout).sum ≤ 1048576 by omega)
 have c1 := f1.cout
 have i0 := f0.cinU
 have i1 := f1.cinU
 have o0 := f0.coutU
 have o1 := f1.coutU
 have n0 := f0.cin
 have n1 := f1.cin
 have p0 := puts_le (exU us)
 have p1 := puts_le (exU vs)
 have e1 := compose_is f0.ok f1.ok (by omega) (by omega) (by omega)
 have okz := compOk (a := 0) (b := 0) f0.runes f1.runes (by omega) (by omega) (by omega)
 have s1 := comp_sizes (exU us) (exU vs) (by omega)
 have g0 := gapsOf_is f0.ok (by omega)
 have g1 := gapsOf_is f1.ok (by omega)
 have g2 := gapsOf_is okz (by rw [canon_in]; omega)
 rw [ex_canon] at g2
 have lp := gpP_length (exU us)
 have lg := gpG_length (exU us)
 have lq := gpP_length (exU vs)
 have ly := gpG_length (exU vs)
 have eo := opOut_is f0.ok
 obtain ⟨p2, tl2, ep⟩ : ∃ p2 tl2, gpP (exU us) = p2 :: tl2 := by
  cases h : gpP (exU us) with
  | nil => exact absurd h (gpP_ne _)
  | cons a b => exact ⟨a, b, rfl⟩
 have hbs : ([] : List Int).length + putsU (exU us) + putsU (exU vs) ≤ 50000 := by simp; omega
 have hoc : (us.map Un.cout).sum ≤ 500 := by omega
 have hoc1 : coutU (exU us) ≤ 1000 := by omega
 have lm := cg_main (vs := vs) (Z := compU (exU us) (exU vs)) f0.ok (show n ≤ 100 by omega) rfl hoc i0 o0 i1 f0.runes (exU us) (exU vs) [] [] [] 0 0 0 [] [] [] [] [] p2 tl2 (by rw [Nat.zero_add]; exact i0) rfl rfl (by rw [Nat.zero_add]; exact o0) (i1.trans o0.symm) rfl rfl rfl rfl ep (by rw [preq_nil (gpP_ne _), ep]) rfl rfl rfl (fun s _ => by rw [Nat.zero_add]; exact (Nat.zero_add _).symm) (preq_nil (gpP_ne _)) rfl hbs
 have ln := cg_next (Q := (gpP (exU vs)).map encT) (YG := gpG (exU vs)) (Z := compU (exU us) (exU vs)) (t := 0) (show n ≤ 1000 by omega) i0 f0.runes hoc1 (i := 0) (X := exU us) (PP := []) (GP := []) (by rw [Nat.zero_add]; exact i0) rfl rfl rfl rfl ep lm
 generalize hO : (us.map Un.cout).sum = c at *
 have hP1 : ((gpP (exU us)).map encT).length = n + 1 := by rw [List.length_map, lp, i0]
 have q1 : (0 : Int) ≤ (((gpP (exU us)).map encT).length : Int) := Int.natCast_nonneg _
 have q2 : ((((gpP (exU us)).map encT).length : Int)).toNat ≤ 17592186044416 := by rw [Int.toNat_natCast, hP1]; exact Nat.le_trans (Nat.add_le_add_right hn 1) (by decide)
 have q3 : ([] : List Bool).length + (gpG (exU us)).length < 140737488355328 := by rw [lg, i0, List.length_nil, Nat.zero_add]; exact Nat.lt_of_le_of_lt hn (by decide)
 have q4 : (((gpP (exU vs)).map encT).length : Int) = ((c + 1 : Nat) : Int) := by rw [List.length_map, lq, i1]
 have q5 : (((gpG (exU vs)).length : Int) != (c : Int)) = false := by rw [bne_eq_false_iff_eq, ly, i1]
 have eo1 : wrap64 ((c : Int) + 1) = ((c + 1 : Nat) : Int) := w64_succ c (by omega)
 clear c0 c1 p0 p1 s1 lp lg lq ly hbs hoc hoc1 o0 o1 n0 n1 lm
 unfold epitomelaw09_ComposeGaps.f
 rw [en]
 refine Ev.bind shown09 (Ev.bind hf0 (Ev.bind eo (Ev.bind hf1 (Ev.bind e1 (Ev.bind g0 (Ev.bind g1 (Ev.bind g2 ?_)))))))
 dsimp only
 refine ev_if_pos rfl (ev_if_pos rfl (ev_if_pos rfl (ev_if_pos rfl (ev_if_pos rfl (Ev.bind eo ?_)))))
 rw [eo1]
 refine ev_if_pos q4 (Ev.bind eo ?_)
 rw [q5]
 refine Ev.step (f := fun k => if 0 ≤ (((gpP (exU us)).map encT).length : Int) then (if ((((gpP (exU us)).map encT).length : Int) : Int).toNat ≤ 17592186044416 then ((some (([] : List Bool) : List Bool)).bind fun y142 => (if y142.length + (gpG (exU us)).length < 140737488355328 then (epitomelaw09_ComposeGaps.l0 k (us.map Un.sp) 0 0 ((gpP (exU us)).map encT) (gpG (exU us)) ((gpP (exU vs)).map encT) (gpG (exU vs)) ((gpP (compU (exU us) (exU vs))).map encT) (gpG (compU (exU us) (exU vs))) (List.replicate ((((gpP (exU us)).map encT).length : Int) : Int).toNat (⟨#[]⟩ : ByteArray)) (y142 ++ gpG (exU us))) else (none))) else (none)) else (none)) (fun k => by rw [epitomelaw09_ComposeGaps.j0, if_neg (by decide)]) ?_
 refine ev_if_pos q1 (ev_if_pos q2 (ev_some rfl (ev_if_pos q3 ?_)))
 have er : List.replicate ((((gpP (exU us)).map encT).length : Int)).toNat (⟨#[]⟩ : ByteArray) = (([] : List (List Int)) ++ [] :: List.replicate (n - ([] : List (List Int)).length) []).map encT := by
  rw [Int.toNat_natCast, hP1]
  simp [List.replicate_succ, encT_nil]
 rw [er]
 exact ln
end Go.Proofs.YtekjfodfedpioaaDoor.F
end
section
namespace Go.Proofs.YtekjfodfedpioaaDoor.composeGaps
open Go.ChangeShapes Go.WideShapes Go.ChangeAt Go.RowKit Go.Proofs.YtekjfodfedpioaaDoor.F
open Go.Proofs.YtekjfodfedpioaaDoorW.PrintWords
open Go.ChangeMaps (open_string shut_string)
set_option linter.unusedVariables false
theorem own : ownKnob Tryd.prog.godebug = none := by kernel_rfl
theorem laidOut : laidOutB Tryd.prog = true := by kernel_rfl
theorem laid_met (os : Os) (args : Array Value) : laidMetH Tryd.prog Rows.composeGapsRow.laid ((laidWorld os).forCall (fun _ _ => 0) ⟨#[], args, []⟩).memory :=
  (LaidIn.of_run (l := Rows.composeGapsRow.laid) [2, 0, 1] 8 (by kernel_rfl) (by kernel_rfl) (by kernel_rfl) (by kernel_rfl)).met
set_option maxRecDepth 100000 in
theorem lifted (os : Os) (started : os.Started) (H : Type) (enc : TypeId × Value → H) :
    ReturnsInHanded {} Tryd.checked os 3 .any (fun w args => (Rows.composeGapsSpec.pre enc Tryd.prog Tryd.f3 [] false w args ∧ laidMetH Tryd.prog Rows.composeGapsRow.laid w) ∧ sizedMet enc Tryd.prog Tryd.f3 (OpenSpec.ofChange Rows.composeGapsSpec) false w args) (Rows.composeGapsSpec.post enc Tryd.prog Tryd.f3 false true false false) := by
  refine returnsInHanded_of_change_and (C := Tryd.checked) (X := (fun w _ => laidMetH Tryd.prog Rows.composeGapsRow.laid w)) (fun _ _ _ hh h => h.of_heap hh) own started (by kernel_rfl) Tryd.func3
    (ChangeSpec.witness_at (enc := enc) (C := Tryd.checked) (os := os) (X := (fun w _ => laidMetH Tryd.prog Rows.composeGapsRow.laid w)) false (laidWorld os) #[.slice none 0 0, .slice none 0 0, .int .u8 0] 8 rfl (by kernel_rfl) (by kernel_rfl) (by kernel_rfl) (by kernel_rfl) (by kernel_rfl) (laid_met os _)) ?_
  intro W base args ds gs before hval0 hW _ _ hL _
  have hG : Glob W := glob_of_reads (Lib.laidMet.reads hL (.tail _ (.tail _ (.head _)))) (Lib.laidMet.reads hL (.head _)) (Lib.laidMet.reads hL (.tail _ (.head _)))
  have hval : ∀ (j : Nat) t v, Tryd.f3.params[j]? = some t → args[j]? = some v → Value.okWide Tryd.prog W .any base t v := hval0
  have hW' := hW
  obtain ⟨p, q, hA0, hV, rfl, hfz, hnd⟩ := hW
  have hA : DataW.TrodAll enc Tryd.prog W 0 (fun _ => true) true Tryd.f3.params.toList args.toList ds p := hA0
  rw [Tryd.params3] at hA hval
  obtain ⟨v0, vs0, d0, ds0, p0, q0, hargs, rfl, rfl, h0, r0⟩ := trodAll_cons hA
  obtain ⟨v1, vs1, d1, ds1, p1, q1, rfl, rfl, rfl, h1, r1⟩ := trodAll_cons r0
  obtain ⟨v2, vs2, d2, ds2, p2, q2, rfl, rfl, rfl, h2, r2⟩ := trodAll_cons r1
  obtain ⟨rfl, rfl, rfl⟩ := trodAll_nil r2
  obtain rfl : args = #[v0, v1, v2] := by cases args; simp_all
  obtain ⟨rfl, rfl⟩ := trodVars_none hV
  obtain ⟨A0, n0, c0, rfl⟩ := okWide_slice Tryd.underlying22 (hval 0 22 v0 rfl rfl)
  have k0 := h0
  have lt0 : ∀ x ∈ p0, x.block < W.heap.size := by obtain ⟨m, hm⟩ := k0; exact DataW.trod_lt m _ _ _ hm
  obtain ⟨l0, z0, hv0⟩ : ∃ l, (Kd.slice 55 k55).K W l [Value.slice A0 n0 c0] ∧ (fun v_ => (v_.length ≤ maxLen ∧ ∀ x_ ∈ v_, V55 x_)) l := by
    obtain ⟨fuel, hf⟩ := h0
    exact (opens_slice Tryd.underlying22 (by kernel_rfl) opens55) enc W _ _ _ _ _ _ hf
  obtain ⟨A_, c_, e, hc0, hr0⟩ := z0
  simp only [List.cons.injEq, Value.slice.injEq, and_true] at e
  obtain ⟨rfl, rfl, rfl⟩ := e
  obtain ⟨A1, n1, c1, rfl⟩ := okWide_slice Tryd.underlying22 (hval 1 22 v1 rfl rfl)
  have k1 := h1
  have lt1 : ∀ x ∈ p1, x.block < W.heap.size := by obtain ⟨m, hm⟩ := k1; exact DataW.trod_lt m _ _ _ hm
  obtain ⟨l1, z1, hv1⟩ : ∃ l, (Kd.slice 55 k55).K W l [Value.slice A1 n1 c1] ∧ (fun v_ => (v_.length ≤ maxLen ∧ ∀ x_ ∈ v_, V55 x_)) l := by
    obtain ⟨fuel, hf⟩ := h1
    exact (opens_slice Tryd.underlying22 (by kernel_rfl) opens55) enc W _ _ _ _ _ _ hf
  obtain ⟨A_, c_, e, hc1, hr1⟩ := z1
  simp only [List.cons.injEq, Value.slice.injEq, and_true] at e
  obtain ⟨rfl, rfl, rfl⟩ := e
  obtain ⟨a2, rfl, rfl, rfl, hv2⟩ := open_int Tryd.underlying5 (hval 2 5 v2 rfl rfl) h2
  obtain ⟨k, h⟩ := Pure.ComposeGaps l0 l1 a2 hv0 hv1 hv2
  refine (epitomelaw09_ComposeGaps.calls k _ _ l0 _ _ l1 a2 true ⟨rfl⟩ W hG hr0 hc0 hr1 hc1 h).mono ?_
  rintro e W' ⟨rfl, hd⟩
  have bel : Below W.heap.size W W' := hd
  exact ⟨_, rfl, _, _, _, [], _, [], hW', trodAll_mk1 (shut_bool Tryd.underlying4 _), (trodAll_cons_mk (Below.trod laidOut (by kernel_rfl) (of_decide_eq_true (by kernel_rfl)) k0 bel lt0) (trodAll_cons_mk (Below.trod laidOut (by kernel_rfl) (of_decide_eq_true (by kernel_rfl)) k1 bel lt1) (trodAll_cons_mk (shut_int Tryd.underlying5 hv2) trodAll_mk0))), rfl, bel.frame _, fun h => by cases h⟩
theorem over : Rows.composeGapsRow.holds Tryd.pinned (OpenSpec.ofChange Rows.composeGapsSpec) :=
  OpenClaim.holds_of_wide 3 Tryd.f3 rfl rfl rfl rfl rfl rfl rfl ⟨rfl, rfl, rfl, rfl, rfl⟩ rfl rfl rfl rfl rfl (by kernel_rfl) Tryd.func3 (by kernel_rfl)
    (of_decide_eq_true (by kernel_rfl)) (by unfold Func.isWrapper; first | (rw [if_pos (by decide +kernel)]; kernel_rfl) | (rw [if_neg (by decide +kernel)]; exact ⟨rfl, rfl⟩))
    (fun os started H enc _ => lifted os started H enc)
theorem card : Claim7.holds Tryd.pinned (.plain (OpenSpec.ofChange Rows.composeGapsSpec)) Rows.composeGapsCard :=
  Claim7.holds_tied_plain_at .later [] [.data, .data, .pinned] true (true, "2881f6b42b2663ee523b6f74ae38605bac96bf7f7fa06ebc2c0fc1d4bfb34da2") false
    over (fun _ h => by cases h) (by kernel_rfl) (fun _ h => by cases h) composeGaps_row_tie rfl ⟨rfl, rfl⟩ (by kernel_rfl) rfl
    (fun f fn hf hfn => by
      obtain rfl : f = 3 := Option.some.inj ((show Tryd.prog.funcNamed "epitome/epitomelaw09.ComposeGaps" = some 3 by kernel_rfl).symm.trans hf) |>.symm
      obtain rfl : fn = Tryd.f3 := (Option.some.inj (Tryd.func3.symm.trans hfn)).symm
      exact ⟨by kernel_rfl, fun j t ht => by
        rw [Tryd.params3] at ht
        match j, ht with
        | 0, ht =>
          obtain rfl : t = 22 := by simpa using ht.symm
          exact (show Tryd.prog.wantsStandIn 22 = false by kernel_rfl)
        | 1, ht =>
          obtain rfl : t = 22 := by simpa using ht.symm
          exact (show Tryd.prog.wantsStandIn 22 = false by kernel_rfl)
        | 2, ht =>
          obtain rfl : t = 5 := by simpa using ht.symm
          exact (show Tryd.prog.wantsStandIn 5 = false by kernel_rfl)
        | j + 3, ht => simp at ht⟩)
    (by kernel_rfl)
theorem proved : Rows.ComposeGapsCardSaid := card
end Go.Proofs.YtekjfodfedpioaaDoor.composeGaps
namespace Go.Proofs.YtekjfodfedpioaaDoor
theorem composeGaps_holds : Rows.ComposeGapsCardSaid := composeGaps.proved
#print axioms composeGaps_holds
end Go.Proofs.YtekjfodfedpioaaDoor
end
