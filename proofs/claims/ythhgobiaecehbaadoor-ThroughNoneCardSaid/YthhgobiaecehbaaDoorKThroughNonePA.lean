import Derived.Test.YthhgobiaecehbaaDoorKCThroughNoneE
import Derived.Test.YthhgobiaecehbaaDoorKCThroughNonePA
import Derived.Below
import Derived.Deep.Draws
import Derived.Deep.AppendLies
import Derived.Maps.AppendAt
import Derived.OwnWalk
import Derived.Laws.BytesArg
import Derived.Laws.MakeOwn
import Derived.Laws.OwnMore
import Derived.Deep.OwnRows
import Derived.Tactics
import Derived.Lib.ConvBytes
import Derived.Laws.Slices
import Derived.WalkKit
import Derived.KernelRfl
import Derived.RowKit3
import Derived.Deep.LoopGhost
import Derived.Deep.QuietTactic
import Derived.BigQuiet
import Derived.WideLaws
import Derived.Deep.DeepCutAuto
import Derived.Deep.CutBlock
import Derived.Deep.RegionHeld3
import Derived.Laws.Rows
import Derived.Lib.AppendStr
import Derived.ArgAppend
import Derived.Laws.IdiomCopy
import Derived.RowKit
import Derived.OrdersHeld
import Derived.Laws.BitsLemmas
import Derived.Laws.StructEq
import Derived.Test.YthhgobiaecehbaaDoorProg
import Derived.Handy
import Derived.Shelf.Unicode.DecodeSlow
import Derived.Ground.NamesProg
import Derived.Shelf.Unicode.ValidAny
import Derived.Laws.RangeString
import Derived.Laws.RangeAny
import Derived.Lib.RuneCount
import Derived.Laws.IdiomStrings
import Derived.Laws.Cover4
import Derived.Great.BuildSlice
import Derived.Defers
import Derived.Laws.EntriesVeiled
import Derived.ProofKit
import Derived.OpenShut
import Derived.ShutString
import Derived.ChangeOld
import Derived.SizedLaws
import Derived.Lib.ValidLaws
import Derived.Test.YthhgobiaecehbaaDoorRows
import Derived.Lib.LaidU8T
import Derived.Lib.LaidIn
import Derived.LaidLaws
import Derived.Test.YthhgobiaecehbaaDoorTie
import Derived.Test.YthhgobiaecehbaaDoorCards
import Derived.Carry
import Derived.ChangeSame
import Derived.ChangeVars
import Derived.JoinedOf
import Derived.SevenTiedAt
section
namespace Go.Proofs.YthhgobiaecehbaaDoor.F
open Go.RowKit Go.Proofs.YthhgobiaecehbaaDoorW.PrintWords Go.Proofs.YthhgobiaecehbaaDoorW.PrintLast Go.Proofs.YthhgobiaecehbaaDoorW.PrintMore
attribute [local go_sem] max2_int min2_int max_two min_two max_three min_three max_four min_four cell_setCell_isSome
set_option linter.unusedVariables false
set_option linter.unusedSimpArgs false
def epitomelaw13_ThroughNone.Pure : Prop := ∀ (l0 : List (S41)) (l1 : List (S41)) (a2 : Int), (l0.length ≤ maxLen ∧ ∀ x_ ∈ l0, V41 x_) → (l1.length ≤ maxLen ∧ ∀ x_ ∈ l1, V41 x_) → (Lit.int .u8 a2).wf = true → ∃ k, epitomelaw13_ThroughNone.f k l0 l1 a2 = some true
end Go.Proofs.YthhgobiaecehbaaDoor.F
end
section
namespace Go.Proofs.YthhgobiaecehbaaDoor.F
open Go.RowKit Go.Proofs.YthhgobiaecehbaaDoorW.PrintWords Go.Proofs.YthhgobiaecehbaaDoorW.PrintLast Go.Proofs.YthhgobiaecehbaaDoorW.PrintMore
set_option linter.unusedVariables false
set_option linter.unusedSimpArgs false
theorem Pure.ThroughNone : epitomelaw13_ThroughNone.Pure := by
  intro l0 l1 a h0 h1 h2
  apply Ev.rounds
  obtain ⟨n, hn, en⟩ := rem64 a h2
  obtain ⟨us, hf0, f0⟩ := fitB l0 h0.1 h0.2 n (by omega)
  obtain ⟨vs, hf1, f1⟩ := fitB l1 h1.1 h1.2 n (by omega)
  have c0 := f0.cout
  have c1 := f1.cout
  have i0 := f0.cinU
  have i1 := f1.cinU
  have o0 := f0.coutU
  have o1 := f1.coutU
  have n0 := f0.cin
  have n1 := f1.cin
  have p0 := puts_le (exU us)
  have hcu : cinU (exU us) = cinU (exU vs) := by omega
  have g0 : ChainG ((us.map Un.cin).sum) [] := trivial
  have g1 : ChainG ((us.map Un.cin).sum) [vs] := ⟨f1.ok, by omega, by omega, trivial⟩
  have e1 := throughOf_is f0.ok (by omega) g0 (fun v hv => by cases hv)
  have e2 := throughPatch_is f0.ok (by omega) g0
  have e3 := throughOf_is f0.ok (by omega) g1 (fun v hv => by rw [List.mem_singleton] at hv; subst hv; omega)
  have e4 := throughPatch_is f0.ok (by omega) g1
  have q1 : underU (fuseU (List.replicate ((us.map Un.cin).sum) .k) (exR [])) (exU us) = List.replicate ((us.map Un.cout).sum) .k := by
    show underU (List.replicate ((us.map Un.cin).sum) .k) (exU us) = _
    rw [← cinU_ex, ← coutU_ex, under_keep_left]
  have q2 : fuseU (List.replicate ((us.map Un.cin).sum) .k) (exR [vs]) = exU vs := by
    show compU (List.replicate ((us.map Un.cin).sum) .k) (exU vs) = _
    rw [show (us.map Un.cin).sum = cinU (exU vs) by omega, comp_keep_left]
  rw [q1, canon_keeps] at e2
  rw [q2] at e4
  have okN := canon_ok f1.runes (by omega) (by omega)
  have ni := canon_in (exU vs)
  have no := canon_out (exU vs)
  have e5 := under_is okN f0.ok (by omega) (by omega) (by omega)
  rw [ex_canon] at e5
  have s1 := over_sizes (exU us) (exU vs) hcu
  have s2 := over_small hcu
  have s3 := under_sizes (exU vs) (exU us) hcu.symm
  have s4 := under_small hcu.symm
  have l9 := f0.len
  have m1 := canon_less us
  have m2 := canon_length (overU (exU us) (exU vs))
  have m3 := length_two (overU (exU us) (exU vs))
  have m4 := canon_length (underU (exU vs) (exU us))
  have m5 := length_two (underU (exU vs) (exU us))
  have p1 := puts_le (exU vs)
  have t1 := same_is ((canon (exU us)).map Un.sp) ((canon (exU us)).map Un.sp) (by rw [List.length_map]; omega)
  have t2 := same_is ((keepU ((us.map Un.cout).sum)).map Un.sp) ((keepU ((us.map Un.cout).sum)).map Un.sp) (by rw [List.length_map]; unfold keepU; split <;> simp)
  have t3 := same_is ((canon (overU (exU us) (exU vs))).map Un.sp) ((canon (overU (exU us) (exU vs))).map Un.sp) (by rw [List.length_map]; omega)
  have t4 := same_is ((canon (underU (exU vs) (exU us))).map Un.sp) ((canon (underU (exU vs) (exU us))).map Un.sp) (by rw [List.length_map]; omega)
  rw [decide_eq_true rfl] at t1 t2 t3 t4
  unfold epitomelaw13_ThroughNone.f
  rw [en]
  refine Ev.bind shown13 (Ev.bind hf0 (Ev.bind hf1 (Ev.bind e1 (Ev.bind e2 (Ev.bind (opOut_is f0.ok) (Ev.bind (opKeep_is _ (by omega)) ?_))))))
  refine Ev.bind e3 (Ev.bind (over_is f0.ok f1.ok (by omega) (by omega) (by omega)) (Ev.bind e4 (Ev.bind (normalOk_is f1.ok) (Ev.bind e5 ?_))))
  refine ev_if_pos rfl (ev_if_pos rfl (ev_if_pos rfl (ev_if_pos rfl (ev_if_pos rfl (ev_if_pos rfl (ev_if_pos rfl (ev_if_pos rfl ?_)))))))
  exact Ev.bind (normalOk_is f0.ok) (Ev.bind t1 (ev_if_pos rfl (Ev.bind t2 (ev_if_pos rfl (Ev.bind t3 (ev_if_pos rfl (Ev.bind t4 (Ev.now true))))))))
end Go.Proofs.YthhgobiaecehbaaDoor.F
end
section
namespace Go.Proofs.YthhgobiaecehbaaDoor.throughNone
open Go.ChangeShapes Go.WideShapes Go.ChangeAt Go.RowKit Go.Proofs.YthhgobiaecehbaaDoor.F
open Go.Proofs.YthhgobiaecehbaaDoorW.PrintWords
open Go.ChangeMaps (open_string shut_string)
set_option linter.unusedVariables false
theorem own : ownKnob Tryd.prog.godebug = none := by kernel_rfl
theorem laidOut : laidOutB Tryd.prog = true := by kernel_rfl
theorem laid_met (os : Os) (args : Array Value) : laidMetH Tryd.prog Rows.throughNoneRow.laid ((laidWorld os).forCall (fun _ _ => 0) ⟨#[], args, []⟩).memory :=
  (LaidIn.of_run (l := Rows.throughNoneRow.laid) [2, 0, 1] 8 (by kernel_rfl) (by kernel_rfl) (by kernel_rfl) (by kernel_rfl)).met
set_option maxRecDepth 100000 in
theorem lifted (os : Os) (started : os.Started) (H : Type) (enc : TypeId × Value → H) :
    ReturnsInHanded {} Tryd.checked os 11 .any (fun w args => (Rows.throughNoneSpec.pre enc Tryd.prog Tryd.f11 [] false w args ∧ laidMetH Tryd.prog Rows.throughNoneRow.laid w) ∧ sizedMet enc Tryd.prog Tryd.f11 (OpenSpec.ofChange Rows.throughNoneSpec) false w args) (Rows.throughNoneSpec.post enc Tryd.prog Tryd.f11 false true false false) := by
  refine returnsInHanded_of_change_and (C := Tryd.checked) (X := (fun w _ => laidMetH Tryd.prog Rows.throughNoneRow.laid w)) (fun _ _ _ hh h => h.of_heap hh) own started (by kernel_rfl) Tryd.func11
    (ChangeSpec.witness_at (enc := enc) (C := Tryd.checked) (os := os) (X := (fun w _ => laidMetH Tryd.prog Rows.throughNoneRow.laid w)) false (laidWorld os) #[.slice none 0 0, .slice none 0 0, .int .u8 0] 8 rfl (by kernel_rfl) (by kernel_rfl) (by kernel_rfl) (by kernel_rfl) (by kernel_rfl) (laid_met os _)) ?_
  intro W base args ds gs before hval0 hW _ _ hL _
  have hG : Glob W := glob_of_reads (Lib.laidMet.reads hL (.tail _ (.tail _ (.head _)))) (Lib.laidMet.reads hL (.head _)) (Lib.laidMet.reads hL (.tail _ (.head _)))
  have hval : ∀ (j : Nat) t v, Tryd.f11.params[j]? = some t → args[j]? = some v → Value.okWide Tryd.prog W .any base t v := hval0
  have hW' := hW
  obtain ⟨p, q, hA0, hV, rfl, hfz, hnd⟩ := hW
  have hA : DataW.TrodAll enc Tryd.prog W 0 (fun _ => true) true Tryd.f11.params.toList args.toList ds p := hA0
  rw [Tryd.params11] at hA hval
  obtain ⟨v0, vs0, d0, ds0, p0, q0, hargs, rfl, rfl, h0, r0⟩ := trodAll_cons hA
  obtain ⟨v1, vs1, d1, ds1, p1, q1, rfl, rfl, rfl, h1, r1⟩ := trodAll_cons r0
  obtain ⟨v2, vs2, d2, ds2, p2, q2, rfl, rfl, rfl, h2, r2⟩ := trodAll_cons r1
  obtain ⟨rfl, rfl, rfl⟩ := trodAll_nil r2
  obtain rfl : args = #[v0, v1, v2] := by cases args; simp_all
  obtain ⟨rfl, rfl⟩ := trodVars_none hV
  obtain ⟨A0, n0, c0, rfl⟩ := okWide_slice Tryd.underlying24 (hval 0 24 v0 rfl rfl)
  have k0 := h0
  have lt0 : ∀ x ∈ p0, x.block < W.heap.size := by obtain ⟨m, hm⟩ := k0; exact DataW.trod_lt m _ _ _ hm
  obtain ⟨l0, z0, hv0⟩ : ∃ l, (Kd.slice 41 k41).K W l [Value.slice A0 n0 c0] ∧ (fun v_ => (v_.length ≤ maxLen ∧ ∀ x_ ∈ v_, V41 x_)) l := by
    obtain ⟨fuel, hf⟩ := h0
    exact (opens_slice Tryd.underlying24 (by kernel_rfl) opens41) enc W _ _ _ _ _ _ hf
  obtain ⟨A_, c_, e, hc0, hr0⟩ := z0
  simp only [List.cons.injEq, Value.slice.injEq, and_true] at e
  obtain ⟨rfl, rfl, rfl⟩ := e
  obtain ⟨A1, n1, c1, rfl⟩ := okWide_slice Tryd.underlying24 (hval 1 24 v1 rfl rfl)
  have k1 := h1
  have lt1 : ∀ x ∈ p1, x.block < W.heap.size := by obtain ⟨m, hm⟩ := k1; exact DataW.trod_lt m _ _ _ hm
  obtain ⟨l1, z1, hv1⟩ : ∃ l, (Kd.slice 41 k41).K W l [Value.slice A1 n1 c1] ∧ (fun v_ => (v_.length ≤ maxLen ∧ ∀ x_ ∈ v_, V41 x_)) l := by
    obtain ⟨fuel, hf⟩ := h1
    exact (opens_slice Tryd.underlying24 (by kernel_rfl) opens41) enc W _ _ _ _ _ _ hf
  obtain ⟨A_, c_, e, hc1, hr1⟩ := z1
  simp only [List.cons.injEq, Value.slice.injEq, and_true] at e
  obtain ⟨rfl, rfl, rfl⟩ := e
  obtain ⟨a2, rfl, rfl, rfl, hv2⟩ := open_int Tryd.underlying5 (hval 2 5 v2 rfl rfl) h2
  obtain ⟨k, h⟩ := Pure.ThroughNone l0 l1 a2 hv0 hv1 hv2
  refine (epitomelaw13_ThroughNone.calls k _ _ l0 _ _ l1 a2 true ⟨rfl⟩ W hG hr0 hc0 hr1 hc1 h).mono ?_
  rintro e W' ⟨rfl, hd⟩
  have bel : Below W.heap.size W W' := hd
  exact ⟨_, rfl, _, _, _, [], _, [], hW', trodAll_mk1 (shut_bool Tryd.underlying4 _), (trodAll_cons_mk (Below.trod laidOut (by kernel_rfl) (of_decide_eq_true (by kernel_rfl)) k0 bel lt0) (trodAll_cons_mk (Below.trod laidOut (by kernel_rfl) (of_decide_eq_true (by kernel_rfl)) k1 bel lt1) (trodAll_cons_mk (shut_int Tryd.underlying5 hv2) trodAll_mk0))), rfl, bel.frame _, fun h => by cases h⟩
theorem over : Rows.throughNoneRow.holds Tryd.pinned (OpenSpec.ofChange Rows.throughNoneSpec) :=
  OpenClaim.holds_of_wide 11 Tryd.f11 rfl rfl rfl rfl rfl rfl rfl ⟨rfl, rfl, rfl, rfl, rfl⟩ rfl rfl rfl rfl rfl (by kernel_rfl) Tryd.func11 (by kernel_rfl)
    (of_decide_eq_true (by kernel_rfl)) (by unfold Func.isWrapper; first | (rw [if_pos (by decide +kernel)]; kernel_rfl) | (rw [if_neg (by decide +kernel)]; exact ⟨rfl, rfl⟩))
    (fun os started H enc _ => lifted os started H enc)
theorem card : Claim7.holds Tryd.pinned (.plain (OpenSpec.ofChange Rows.throughNoneSpec)) Rows.throughNoneCard :=
  Claim7.holds_tied_plain_at .later [] [.data, .data, .pinned] true (true, "8fb316f5ff7554be16da48bf4668a02c6c874877236834196521f490ba2e0f73") false
    over (fun _ h => by cases h) (by kernel_rfl) (fun _ h => by cases h) throughNone_row_tie rfl ⟨rfl, rfl⟩ (by kernel_rfl) rfl
    (fun f fn hf hfn => by
      obtain rfl : f = 11 := Option.some.inj ((show Tryd.prog.funcNamed "epitome/epitomelaw13.ThroughNone" = some 11 by kernel_rfl).symm.trans hf) |>.symm
      obtain rfl : fn = Tryd.f11 := (Option.some.inj (Tryd.func11.symm.trans hfn)).symm
      exact ⟨by kernel_rfl, fun j t ht => by
        rw [Tryd.params11] at ht
        match j, ht with
        | 0, ht =>
          obtain rfl : t = 24 := by simpa using ht.symm
          exact (show Tryd.prog.wantsStandIn 24 = false by kernel_rfl)
        | 1, ht =>
          obtain rfl : t = 24 := by simpa using ht.symm
          exact (show Tryd.prog.wantsStandIn 24 = false by kernel_rfl)
        | 2, ht =>
          obtain rfl : t = 5 := by simpa using ht.symm
          exact (show Tryd.prog.wantsStandIn 5 = false by kernel_rfl)
        | j + 3, ht => simp at ht⟩)
    (by kernel_rfl)
theorem proved : Rows.ThroughNoneCardSaid := card
end Go.Proofs.YthhgobiaecehbaaDoor.throughNone
namespace Go.Proofs.YthhgobiaecehbaaDoor
theorem throughNone_holds : Rows.ThroughNoneCardSaid := throughNone.proved
#print axioms throughNone_holds
end Go.Proofs.YthhgobiaecehbaaDoor
end
