import Derived.Test.YtkefbljogjcodaaDoorKCUnderAllF
import Derived.Test.YtkefbljogjcodaaDoorKCUnderAllPA
import Derived.Below
import Derived.Deep.Draws
import Derived.Deep.AppendLies
import Derived.Maps.AppendAt
import Derived.OwnWalk
import Derived.Laws.BytesArg
import Derived.Laws.MakeOwn
import Derived.Laws.OwnMore
import Derived.Deep.OwnRows
import Derived.Tactics
import Derived.Lib.ConvBytes
import Derived.Laws.Slices
import Derived.WalkKit
import Derived.KernelRfl
import Derived.RowKit3
import Derived.Deep.LoopGhost
import Derived.Deep.QuietTactic
import Derived.BigQuiet
import Derived.WideLaws
import Derived.Deep.DeepCutAuto
import Derived.Deep.CutBlock
import Derived.Deep.RegionHeld3
import Derived.Laws.Rows
import Derived.Lib.AppendStr
import Derived.ArgAppend
import Derived.Laws.IdiomCopy
import Derived.RowKit
import Derived.OrdersHeld
import Derived.Laws.BitsLemmas
import Derived.Laws.StructEq
import Derived.Test.YtkefbljogjcodaaDoorProg
import Derived.Handy
import Derived.Shelf.Unicode.DecodeSlow
import Derived.Ground.NamesProg
import Derived.Shelf.Unicode.ValidAny
import Derived.Laws.RangeString
import Derived.Laws.RangeAny
import Derived.Lib.RuneCount
import Derived.Laws.IdiomStrings
import Derived.Laws.Cover4
import Derived.Great.BuildSlice
import Derived.Defers
import Derived.Laws.EntriesVeiled
import Derived.ProofKit
import Derived.OpenShut
import Derived.ShutString
import Derived.ChangeOld
import Derived.SizedLaws
import Derived.Lib.ValidLaws
import Derived.Test.YtkefbljogjcodaaDoorRows
import Derived.Lib.LaidU8T
import Derived.Lib.LaidIn
import Derived.LaidLaws
import Derived.Test.YtkefbljogjcodaaDoorTie
import Derived.Test.YtkefbljogjcodaaDoorCards
import Derived.Carry
import Derived.ChangeSame
import Derived.ChangeVars
import Derived.JoinedOf
import Derived.SevenTiedAt
section
namespace Go.Proofs.YtkefbljogjcodaaDoor.F
open Go.RowKit Go.Proofs.YtkefbljogjcodaaDoorW.PrintWords Go.Proofs.YtkefbljogjcodaaDoorW.PrintLast Go.Proofs.YtkefbljogjcodaaDoorW.PrintMore
attribute [local go_sem] max2_int min2_int max_two min_two max_three min_three max_four min_four cell_setCell_isSome
set_option linter.unusedVariables false
set_option linter.unusedSimpArgs false
def epitomelaw12_UnderAll.Pure : Prop := ∀ (l0 : List (S26)) (l1 : List (S26)) (a2 : Int), (l0.length ≤ maxLen ∧ ∀ x_ ∈ l0, V26 x_) → (l1.length ≤ maxLen ∧ ∀ x_ ∈ l1, V26 x_) → (Lit.int .u8 a2).wf = true → ∃ k, epitomelaw12_UnderAll.f k l0 l1 a2 = some true
end Go.Proofs.YtkefbljogjcodaaDoor.F
end
section
namespace Go.Proofs.YtkefbljogjcodaaDoor.F
open Go.RowKit Go.Proofs.YtkefbljogjcodaaDoorW.PrintWords Go.Proofs.YtkefbljogjcodaaDoorW.PrintLast Go.Proofs.YtkefbljogjcodaaDoorW.PrintMore
set_option linter.unusedVariables false
set_option linter.unusedSimpArgs false
theorem few12_is (l : List Sp) (hl : l.length ≤ maxLen) : Ev (fun k => epitomelaw12_few.f k l) (fewS l) := by
 unfold epitomelaw12_few.f
 exact few_gen l hl (F := fun k acc i => epitomelaw12_few.l0 k l acc i) (fun k acc i => by rw [epitomelaw12_few.l0]) l [] rfl (by simp)
theorem Pure.UnderAll : epitomelaw12_UnderAll.Pure := by
 intro l0 l1 a h0 h1 h2
 apply Ev.rounds
 obtain ⟨n, hn, en⟩ := rem64 a h2
 obtain ⟨us, hf0, f0⟩ := fitB l0 h0.1 h0.2 n (by omega)
 obtain ⟨vs, hf1, f1⟩ := fitB l1 h1.1 h1.2 n (by omega)
 have c0 := f0.cout
 have c1 := f1.cout
 have i0 := f0.cinU
 have i1 := f1.cinU
 have o0 := f0.coutU
 have o1 := f1.coutU
 have n0 := f0.cin
 have n1 := f1.cin
 have l9 := f0.len
 have l8 := f1.len
 have p0 := puts_le (exU us)
 have p1 := puts_le (exU vs)
 have hcu : cinU (exU us) = cinU (exU vs) := by omega
 have m0 := refMay_ok f0.ok (by omega) (by omega)
 have m1 := refMay_ok f1.ok (by omega) (by omega)
 have e1 := under_is f0.ok f1.ok (by omega) (by omega) (by omega)
 have e2 := refUnderOf_is f0.ok f1.ok (by omega) (by omega) m0 m1 (by omega)
 have e3 := meet_is f1.ok f0.ok (by omega) (by omega) (by omega)
 have e4 := refOverOf_is f1.ok f0.ok (by omega) (by omega) m1 m0 (by omega)
 obtain ⟨r, p, q, hr⟩ := under_all_ops l0 l1
 obtain ⟨r2, q2, p3, q3, hr2⟩ := meet_all_ops l1 l0
 have k0 := canon_length (underU (exU us) (exU vs))
 have k1 := length_two (underU (exU us) (exU vs))
 have k2 := canon_length (overU (exU vs) (exU us))
 have k3 := length_two (overU (exU vs) (exU us))
 have s1 := under_sizes (exU us) (exU vs) hcu
 have s2 := under_small hcu
 have s3 := over_sizes (exU vs) (exU us) hcu.symm
 have s4 := over_small hcu.symm
 have sm := same_is ((canon (underU (exU us) (exU vs))).map Un.sp) ((canon (underU (exU us) (exU vs))).map Un.sp) (by rw [List.length_map]; omega)
 have so := same_is ((canon (overU (exU vs) (exU us))).map Un.sp) ((canon (overU (exU vs) (exU us))).map Un.sp) (by rw [List.length_map]; omega)
 have sr := same_is r.1 r.1 hr
 rw [decide_eq_true rfl] at sm so sr
 unfold epitomelaw12_UnderAll.f
 rw [en]
 refine Ev.bind shown12 (Ev.bind hf0 (Ev.bind hf1 (Ev.bind e1 (Ev.bind e2 ?_))))
 refine Ev.bind (few12_is l0 h0.1) (Ev.bind (few12_is l1 h1.1) (Ev.bind p (Ev.bind (few12_is l0 h0.1) (Ev.bind (few12_is l1 h1.1) (Ev.bind q ?_)))))
 refine Ev.bind e3 (Ev.bind e4 ?_)
 refine Ev.bind (few12_is l1 h1.1) (Ev.bind (few12_is l0 h0.1) (Ev.bind p3 (Ev.bind (few12_is l1 h1.1) (Ev.bind (few12_is l0 h0.1) (Ev.bind q3 ?_)))))
 refine ev_if_pos rfl (Ev.bind sm (ev_if_pos rfl (ev_if_pos rfl (Ev.bind sr (ev_if_pos rfl (ev_if_pos rfl (Ev.bind so (ev_if_pos rfl (Ev.bind sm (ev_if_pos rfl (ev_if_pos rfl ?_)))))))))))
 rw [hr2, beq_self_eq_true]
 exact Ev.now true
end Go.Proofs.YtkefbljogjcodaaDoor.F
end
section
namespace Go.Proofs.YtkefbljogjcodaaDoor.underAll
open Go.ChangeShapes Go.WideShapes Go.ChangeAt Go.RowKit Go.Proofs.YtkefbljogjcodaaDoor.F
open Go.Proofs.YtkefbljogjcodaaDoorW.PrintWords
open Go.ChangeMaps (open_string shut_string)
set_option linter.unusedVariables false
theorem own : ownKnob Tryd.prog.godebug = none := by kernel_rfl
theorem laidOut : laidOutB Tryd.prog = true := by kernel_rfl
theorem laid_met (os : Os) (args : Array Value) : laidMetH Tryd.prog Rows.underAllRow.laid ((laidWorld os).forCall (fun _ _ => 0) ⟨#[], args, []⟩).memory :=
  (LaidIn.of_run (l := Rows.underAllRow.laid) [2, 0, 1] 8 (by kernel_rfl) (by kernel_rfl) (by kernel_rfl) (by kernel_rfl)).met
set_option maxRecDepth 100000 in
theorem lifted (os : Os) (started : os.Started) (H : Type) (enc : TypeId × Value → H) :
    ReturnsInHanded {} Tryd.checked os 4 .any (fun w args => (Rows.underAllSpec.pre enc Tryd.prog Tryd.f4 [] false w args ∧ laidMetH Tryd.prog Rows.underAllRow.laid w) ∧ sizedMet enc Tryd.prog Tryd.f4 (OpenSpec.ofChange Rows.underAllSpec) false w args) (Rows.underAllSpec.post enc Tryd.prog Tryd.f4 false true false false) := by
  refine returnsInHanded_of_change_and (C := Tryd.checked) (X := (fun w _ => laidMetH Tryd.prog Rows.underAllRow.laid w)) (fun _ _ _ hh h => h.of_heap hh) own started (by kernel_rfl) Tryd.func4
    (ChangeSpec.witness_at (enc := enc) (C := Tryd.checked) (os := os) (X := (fun w _ => laidMetH Tryd.prog Rows.underAllRow.laid w)) false (laidWorld os) #[.slice none 0 0, .slice none 0 0, .int .u8 0] 8 rfl (by kernel_rfl) (by kernel_rfl) (by kernel_rfl) (by kernel_rfl) (by kernel_rfl) (laid_met os _)) ?_
  intro W base args ds gs before hval0 hW _ _ hL _
  have hG : Glob W := glob_of_reads (Lib.laidMet.reads hL (.tail _ (.tail _ (.head _)))) (Lib.laidMet.reads hL (.head _)) (Lib.laidMet.reads hL (.tail _ (.head _)))
  have hval : ∀ (j : Nat) t v, Tryd.f4.params[j]? = some t → args[j]? = some v → Value.okWide Tryd.prog W .any base t v := hval0
  have hW' := hW
  obtain ⟨p, q, hA0, hV, rfl, hfz, hnd⟩ := hW
  have hA : DataW.TrodAll enc Tryd.prog W 0 (fun _ => true) true Tryd.f4.params.toList args.toList ds p := hA0
  rw [Tryd.params4] at hA hval
  obtain ⟨v0, vs0, d0, ds0, p0, q0, hargs, rfl, rfl, h0, r0⟩ := trodAll_cons hA
  obtain ⟨v1, vs1, d1, ds1, p1, q1, rfl, rfl, rfl, h1, r1⟩ := trodAll_cons r0
  obtain ⟨v2, vs2, d2, ds2, p2, q2, rfl, rfl, rfl, h2, r2⟩ := trodAll_cons r1
  obtain ⟨rfl, rfl, rfl⟩ := trodAll_nil r2
  obtain rfl : args = #[v0, v1, v2] := by cases args; simp_all
  obtain ⟨rfl, rfl⟩ := trodVars_none hV
  obtain ⟨A0, n0, c0, rfl⟩ := okWide_slice Tryd.underlying27 (hval 0 27 v0 rfl rfl)
  have k0 := h0
  have lt0 : ∀ x ∈ p0, x.block < W.heap.size := by obtain ⟨m, hm⟩ := k0; exact DataW.trod_lt m _ _ _ hm
  obtain ⟨l0, z0, hv0⟩ : ∃ l, (Kd.slice 26 k26).K W l [Value.slice A0 n0 c0] ∧ (fun v_ => (v_.length ≤ maxLen ∧ ∀ x_ ∈ v_, V26 x_)) l := by
    obtain ⟨fuel, hf⟩ := h0
    exact (opens_slice Tryd.underlying27 (by kernel_rfl) opens26) enc W _ _ _ _ _ _ hf
  obtain ⟨A_, c_, e, hc0, hr0⟩ := z0
  simp only [List.cons.injEq, Value.slice.injEq, and_true] at e
  obtain ⟨rfl, rfl, rfl⟩ := e
  obtain ⟨A1, n1, c1, rfl⟩ := okWide_slice Tryd.underlying27 (hval 1 27 v1 rfl rfl)
  have k1 := h1
  have lt1 : ∀ x ∈ p1, x.block < W.heap.size := by obtain ⟨m, hm⟩ := k1; exact DataW.trod_lt m _ _ _ hm
  obtain ⟨l1, z1, hv1⟩ : ∃ l, (Kd.slice 26 k26).K W l [Value.slice A1 n1 c1] ∧ (fun v_ => (v_.length ≤ maxLen ∧ ∀ x_ ∈ v_, V26 x_)) l := by
    obtain ⟨fuel, hf⟩ := h1
    exact (opens_slice Tryd.underlying27 (by kernel_rfl) opens26) enc W _ _ _ _ _ _ hf
  obtain ⟨A_, c_, e, hc1, hr1⟩ := z1
  simp only [List.cons.injEq, Value.slice.injEq, and_true] at e
  obtain ⟨rfl, rfl, rfl⟩ := e
  obtain ⟨a2, rfl, rfl, rfl, hv2⟩ := open_int Tryd.underlying5 (hval 2 5 v2 rfl rfl) h2
  obtain ⟨k, h⟩ := Pure.UnderAll l0 l1 a2 hv0 hv1 hv2
  refine (epitomelaw12_UnderAll.calls k _ _ l0 _ _ l1 a2 true ⟨rfl⟩ W hG hr0 hc0 hr1 hc1 h).mono ?_
  rintro e W' ⟨rfl, hd⟩
  have bel : Below W.heap.size W W' := hd
  exact ⟨_, rfl, _, _, _, [], _, [], hW', trodAll_mk1 (shut_bool Tryd.underlying4 _), (trodAll_cons_mk (Below.trod laidOut (by kernel_rfl) (of_decide_eq_true (by kernel_rfl)) k0 bel lt0) (trodAll_cons_mk (Below.trod laidOut (by kernel_rfl) (of_decide_eq_true (by kernel_rfl)) k1 bel lt1) (trodAll_cons_mk (shut_int Tryd.underlying5 hv2) trodAll_mk0))), rfl, bel.frame _, fun h => by cases h⟩
theorem over : Rows.underAllRow.holds Tryd.pinned (OpenSpec.ofChange Rows.underAllSpec) :=
  OpenClaim.holds_of_wide 4 Tryd.f4 rfl rfl rfl rfl rfl rfl rfl ⟨rfl, rfl, rfl, rfl, rfl⟩ rfl rfl rfl rfl rfl (by kernel_rfl) Tryd.func4 (by kernel_rfl)
    (of_decide_eq_true (by kernel_rfl)) (by unfold Func.isWrapper; first | (rw [if_pos (by decide +kernel)]; kernel_rfl) | (rw [if_neg (by decide +kernel)]; exact ⟨rfl, rfl⟩))
    (fun os started H enc _ => lifted os started H enc)
theorem card : Claim7.holds Tryd.pinned (.plain (OpenSpec.ofChange Rows.underAllSpec)) Rows.underAllCard :=
  Claim7.holds_tied_plain_at .later [] [.data, .data, .pinned] true (true, "cb220046ee5715416f27fb58bb862ce5d799745ed337233484527cd9cd290028") false
    over (fun _ h => by cases h) (by kernel_rfl) (fun _ h => by cases h) underAll_row_tie rfl ⟨rfl, rfl⟩ (by kernel_rfl) rfl
    (fun f fn hf hfn => by
      obtain rfl : f = 4 := Option.some.inj ((show Tryd.prog.funcNamed "epitome/epitomelaw12.UnderAll" = some 4 by kernel_rfl).symm.trans hf) |>.symm
      obtain rfl : fn = Tryd.f4 := (Option.some.inj (Tryd.func4.symm.trans hfn)).symm
      exact ⟨by kernel_rfl, fun j t ht => by
        rw [Tryd.params4] at ht
        match j, ht with
        | 0, ht =>
          obtain rfl : t = 27 := by simpa using ht.symm
          exact (show Tryd.prog.wantsStandIn 27 = false by kernel_rfl)
        | 1, ht =>
          obtain rfl : t = 27 := by simpa using ht.symm
          exact (show Tryd.prog.wantsStandIn 27 = false by kernel_rfl)
        | 2, ht =>
          obtain rfl : t = 5 := by simpa using ht.symm
          exact (show Tryd.prog.wantsStandIn 5 = false by kernel_rfl)
        | j + 3, ht => simp at ht⟩)
    (by kernel_rfl)
theorem proved : Rows.UnderAllCardSaid := card
end Go.Proofs.YtkefbljogjcodaaDoor.underAll
namespace Go.Proofs.YtkefbljogjcodaaDoor
theorem underAll_holds : Rows.UnderAllCardSaid := underAll.proved
#print axioms underAll_holds
end Go.Proofs.YtkefbljogjcodaaDoor
end
