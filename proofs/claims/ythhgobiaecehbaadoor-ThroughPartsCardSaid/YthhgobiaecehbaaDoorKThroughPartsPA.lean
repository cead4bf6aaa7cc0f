import Derived.Test.YthhgobiaecehbaaDoorKThroughPartsA
import Derived.Test.YthhgobiaecehbaaDoorKGThPA
import Derived.Below
import Derived.Deep.Draws
import Derived.Deep.AppendLies
import Derived.Maps.AppendAt
import Derived.OwnWalk
import Derived.Laws.BytesArg
import Derived.Laws.MakeOwn
import Derived.Laws.OwnMore
import Derived.Deep.OwnRows
import Derived.Tactics
import Derived.Lib.ConvBytes
import Derived.Laws.Slices
import Derived.WalkKit
import Derived.KernelRfl
import Derived.RowKit3
import Derived.Deep.LoopGhost
import Derived.Deep.QuietTactic
import Derived.BigQuiet
import Derived.WideLaws
import Derived.Deep.DeepCutAuto
import Derived.Deep.CutBlock
import Derived.Deep.RegionHeld3
import Derived.Laws.Rows
import Derived.Lib.AppendStr
import Derived.ArgAppend
import Derived.Laws.IdiomCopy
import Derived.RowKit
import Derived.OrdersHeld
import Derived.Laws.BitsLemmas
import Derived.Laws.StructEq
import Derived.Test.YthhgobiaecehbaaDoorProg
import Derived.Handy
import Derived.Shelf.Unicode.DecodeSlow
import Derived.Ground.NamesProg
import Derived.Shelf.Unicode.ValidAny
import Derived.Laws.RangeString
import Derived.Laws.RangeAny
import Derived.Lib.RuneCount
import Derived.Laws.IdiomStrings
import Derived.Laws.Cover4
import Derived.Great.BuildSlice
import Derived.Defers
import Derived.Laws.EntriesVeiled
import Derived.ProofKit
import Derived.OpenShut
import Derived.ShutString
import Derived.ChangeOld
import Derived.SizedLaws
import Derived.Lib.ValidLaws
import Derived.Test.YthhgobiaecehbaaDoorRows
import Derived.Lib.LaidU8T
import Derived.Lib.LaidIn
import Derived.LaidLaws
import Derived.Test.YthhgobiaecehbaaDoorTie
import Derived.Test.YthhgobiaecehbaaDoorCards
import Derived.Carry
import Derived.ChangeSame
import Derived.ChangeVars
import Derived.JoinedOf
import Derived.SevenTiedAt
section
namespace Go.Proofs.YthhgobiaecehbaaDoor.F
open Go.RowKit Go.Proofs.YthhgobiaecehbaaDoorW.PrintWords Go.Proofs.YthhgobiaecehbaaDoorW.PrintLast Go.Proofs.YthhgobiaecehbaaDoorW.PrintMore
attribute [local go_sem] max2_int min2_int max_two min_two max_three min_three max_four min_four cell_setCell_isSome
set_option linter.unusedVariables false
set_option linter.unusedSimpArgs false
def epitomelaw13_ThroughParts.Pure : Prop := ∀ (l0 : List (S41)) (l1 : List (List (S41))) (a2_0 : Int) (a2_1 : Int), (l0.length ≤ maxLen ∧ ∀ x_ ∈ l0, V41 x_) → (l1.length ≤ maxLen ∧ ∀ x_ ∈ l1, (x_.length ≤ maxLen ∧ ∀ x_x_ ∈ x_, V41 x_x_)) → (Lit.int .u8 a2_0).wf = true → (Lit.int .u8 a2_1).wf = true → ∃ k, epitomelaw13_ThroughParts.f k l0 l1 a2_0 a2_1 = some true
end Go.Proofs.YthhgobiaecehbaaDoor.F
end
section
namespace Go.Proofs.YthhgobiaecehbaaDoor.F
open Go.RowKit Go.Proofs.YthhgobiaecehbaaDoorW.PrintWords Go.Proofs.YthhgobiaecehbaaDoorW.PrintLast Go.Proofs.YthhgobiaecehbaaDoorW.PrintMore
set_option linter.unusedVariables false
set_option linter.unusedSimpArgs false
theorem Pure.ThroughParts : epitomelaw13_ThroughParts.Pure := by
  intro l0 l1 a b h0 h1 h2 h3
  apply Ev.rounds
  obtain ⟨n, hn, en⟩ := rem64 a h2
  have b2 := wf_u8 h3
  obtain ⟨us, hf0, f0⟩ := fitB l0 h0.1 h0.2 n (by omega)
  obtain ⟨w, hcw, hc, hwl⟩ := chain_is l1 h1.1 h1.2 n (by omega)
  obtain ⟨kk, hkk, ek⟩ := cut_place b w.length b2.1
  have ew : wrap64 b = b := w64 (by omega) (by omega)
  have e1 : wrap64 (((rowsS w).length : Int) + 1) = ((w.length + 1 : Nat) : Int) := by rw [rowsS_length, w64_succ _ (by omega)]
  have EK := Aside0.mk ek
  have E1 := Aside0.mk e1
  have EN := Aside0.mk en
  clear ek e1 en
  obtain ⟨eq, hct, hcd⟩ := fuse_parts hc kk
  have lt : (w.take kk).length ≤ 20 := take_short w kk 20 hwl
  have ld : (w.drop kk).length ≤ 20 := drop_short w kk 20 hwl
  have mle := endN_le (w.take kk) n hct
  have dle := endN_le (w.drop kk) _ hcd
  have wle := endN_le w n hc
  have c0 := f0.cout
  have i0 := f0.cinU
  have o0 := f0.coutU
  have n0 := f0.cin
  have p0 := puts_le (exU us)
  have gW := chainG_of w n hc (by omega)
  have gA := chainG_of (w.take kk) n hct (by omega)
  have gB := chainG_of (w.drop kk) _ hcd (by omega)
  have bW := chainOk_cout w n hc
  obtain ⟨eF, rF, iF, oF, bF⟩ := fuseG_is gW (by omega)
  obtain ⟨eA, rA, iA, oA, bA⟩ := fuseG_is gA (by omega)
  obtain ⟨eB, rB, iB, oB, bB⟩ := fuseG_is gB (by omega)
  have okA := fuseG_ok gA (by omega)
  have okB := fuseG_ok gB (by omega)
  have ovF := overs_fuse w (exU us) (List.replicate n .k) (by rw [keeps_in, i0]) (by rw [keeps_out]; exact hc)
  rw [show List.replicate n U.k = List.replicate (cinU (exU us)) .k by rw [i0], over_keep_right, show List.replicate (cinU (exU us)) U.k = List.replicate n .k by rw [i0]] at ovF
  rw [eq] at eF rF iF oF ovF
  have eW := throughOf_is f0.ok (by omega) (by rw [n0]; exact gW) (fun v hv => by have := bW v hv; omega)
  have eP := throughPatch_is f0.ok (by omega) (by rw [n0]; exact gW)
  rw [n0, eq] at eP
  generalize hFA : fuseU (List.replicate n .k) (exR (w.take kk)) = FA at *
  generalize hFB : fuseU (List.replicate (endN n (w.take kk)) .k) (exR (w.drop kk)) = FB at *
  have ia := canon_in FA
  have oa := canon_out FA
  have ib := canon_in FB
  have ob := canon_out FB
  have gC : ChainG ((us.map Un.cin).sum) [canon FA, canon FB] := ⟨okA, by omega, by omega, okB, by omega, by omega, trivial⟩
  have eW2 := throughOf_is f0.ok (by omega) gC (fun v hv => by
    rcases List.mem_cons.1 hv with rfl | hv
    · omega
    · rw [List.mem_singleton] at hv
      subst hv
      omega)
  have eP2 := throughPatch_is f0.ok (by omega) gC
  have q : fuseU (List.replicate n .k) (exR [canon FA, canon FB]) = compU FA FB := by
    show compU (compU (List.replicate n .k) (exU (canon FA))) (exU (canon FB)) = _
    rw [ex_canon, ex_canon, show List.replicate n U.k = List.replicate (cinU FA) .k by rw [iA], comp_keep_left]
  have q2 : oversU (exU us) (exR [canon FA, canon FB]) = overU (exU us) (compU FA FB) := by
    show overU (overU (exU us) (exU (canon FA))) (exU (canon FB)) = _
    rw [ex_canon, ex_canon, over_comp _ _ _ _ (Nat.le_refl _) (by omega) (by omega)]
  rw [q2] at eW2
  rw [n0, q] at eP2
  rw [← ovF] at eW
  have hcc : cinU (exU us) = cinU (compU FA FB) := by omega
  have s1 := over_sizes (exU us) (compU FA FB) hcc
  have s2 := over_small hcc
  have s3 := under_sizes (compU FA FB) (exU us) hcc.symm
  have s4 := under_small hcc.symm
  have pF := puts_le (compU FA FB)
  have k0 := canon_length (overU (exU us) (compU FA FB))
  have k1 := length_two (overU (exU us) (compU FA FB))
  have k2 := canon_length (underU (compU FA FB) (exU us))
  have k3 := length_two (underU (compU FA FB) (exU us))
  have sz := comp_sizes FA FB (by omega)
  have t1 := same_is ((canon (overU (exU us) (compU FA FB))).map Un.sp) ((canon (overU (exU us) (compU FA FB))).map Un.sp) (by rw [List.length_map]; omega)
  have t2 := same_is ((canon (underU (compU FA FB) (exU us))).map Un.sp) ((canon (underU (compU FA FB) (exU us))).map Un.sp) (by rw [List.length_map]; omega)
  rw [decide_eq_true rfl] at t1 t2
  have eo := opOut_is okA
  rw [oa, oA] at eo
  unfold epitomelaw13_ThroughParts.f
  rw [EN.out]
  refine Ev.bind shown13 (Ev.bind hf0 (Ev.bind hcw ?_))
  simp only [E1.out, ew, EK.out, Int.toNat_natCast, rowsS_take, rowsS_drop]
  have lw := rowsS_length w
  refine ev_if_neg (by omega) (ev_if_pos (by omega) (ev_if_pos (by omega) (Ev.bind eA (Ev.bind eo (Ev.bind eB ?_)))))
  refine Ev.bind eW (Ev.bind eW2 (Ev.bind eP (Ev.bind eP2 ?_)))
  exact ev_if_pos trivial (ev_if_pos rfl (ev_if_pos rfl (ev_if_pos rfl (ev_if_pos rfl (ev_if_pos rfl (ev_if_pos rfl (Ev.bind t1 (ev_if_pos rfl (Ev.bind t2 (Ev.now true))))))))))
end Go.Proofs.YthhgobiaecehbaaDoor.F
end
section
namespace Go.Proofs.YthhgobiaecehbaaDoor.throughParts
open Go.ChangeShapes Go.WideShapes Go.ChangeAt Go.RowKit Go.Proofs.YthhgobiaecehbaaDoor.F
open Go.Proofs.YthhgobiaecehbaaDoorW.PrintWords
open Go.ChangeMaps (open_string shut_string)
set_option linter.unusedVariables false
theorem own : ownKnob Tryd.prog.godebug = none := by kernel_rfl
theorem laidOut : laidOutB Tryd.prog = true := by kernel_rfl
theorem laid_met (os : Os) (args : Array Value) : laidMetH Tryd.prog Rows.throughPartsRow.laid ((laidWorld os).forCall (fun _ _ => 0) ⟨#[], args, []⟩).memory :=
  (LaidIn.of_run (l := Rows.throughPartsRow.laid) [2, 0, 1] 8 (by kernel_rfl) (by kernel_rfl) (by kernel_rfl) (by kernel_rfl)).met
set_option maxRecDepth 100000 in
theorem lifted (os : Os) (started : os.Started) (H : Type) (enc : TypeId × Value → H) :
    ReturnsInHanded {} Tryd.checked os 10 .any (fun w args => (Rows.throughPartsSpec.pre enc Tryd.prog Tryd.f10 [] false w args ∧ laidMetH Tryd.prog Rows.throughPartsRow.laid w) ∧ sizedMet enc Tryd.prog Tryd.f10 (OpenSpec.ofChange Rows.throughPartsSpec) false w args) (Rows.throughPartsSpec.post enc Tryd.prog Tryd.f10 false true false false) := by
  refine returnsInHanded_of_change_and (C := Tryd.checked) (X := (fun w _ => laidMetH Tryd.prog Rows.throughPartsRow.laid w)) (fun _ _ _ hh h => h.of_heap hh) own started (by kernel_rfl) Tryd.func10
    (ChangeSpec.witness_at (enc := enc) (C := Tryd.checked) (os := os) (X := (fun w _ => laidMetH Tryd.prog Rows.throughPartsRow.laid w)) false (laidWorld os) #[.slice none 0 0, .slice none 0 0, .agg #[.int .u8 0, .int .u8 0]] 8 rfl (by kernel_rfl) (by kernel_rfl) (by kernel_rfl) (by kernel_rfl) (by kernel_rfl) (laid_met os _)) ?_
  intro W base args ds gs before hval0 hW _ _ hL _
  have hG : Glob W := glob_of_reads (Lib.laidMet.reads hL (.tail _ (.tail _ (.head _)))) (Lib.laidMet.reads hL (.head _)) (Lib.laidMet.reads hL (.tail _ (.head _)))
  have hval : ∀ (j : Nat) t v, Tryd.f10.params[j]? = some t → args[j]? = some v → Value.okWide Tryd.prog W .any base t v := hval0
  have hW' := hW
  obtain ⟨p, q, hA0, hV, rfl, hfz, hnd⟩ := hW
  have hA : DataW.TrodAll enc Tryd.prog W 0 (fun _ => true) true Tryd.f10.params.toList args.toList ds p := hA0
  rw [Tryd.params10] at hA hval
  obtain ⟨v0, vs0, d0, ds0, p0, q0, hargs, rfl, rfl, h0, r0⟩ := trodAll_cons hA
  obtain ⟨v1, vs1, d1, ds1, p1, q1, rfl, rfl, rfl, h1, r1⟩ := trodAll_cons r0
  obtain ⟨v2, vs2, d2, ds2, p2, q2, rfl, rfl, rfl, h2, r2⟩ := trodAll_cons r1
  obtain ⟨rfl, rfl, rfl⟩ := trodAll_nil r2
  obtain rfl : args = #[v0, v1, v2] := by cases args; simp_all
  obtain ⟨rfl, rfl⟩ := trodVars_none hV
  obtain ⟨A0, n0, c0, rfl⟩ := okWide_slice Tryd.underlying24 (hval 0 24 v0 rfl rfl)
  have k0 := h0
  have lt0 : ∀ x ∈ p0, x.block < W.heap.size := by obtain ⟨m, hm⟩ := k0; exact DataW.trod_lt m _ _ _ hm
  obtain ⟨l0, z0, hv0⟩ : ∃ l, (Kd.slice 41 k41).K W l [Value.slice A0 n0 c0] ∧ (fun v_ => (v_.length ≤ maxLen ∧ ∀ x_ ∈ v_, V41 x_)) l := by
    obtain ⟨fuel, hf⟩ := h0
    exact (opens_slice Tryd.underlying24 (by kernel_rfl) opens41) enc W _ _ _ _ _ _ hf
  obtain ⟨A_, c_, e, hc0, hr0⟩ := z0
  simp only [List.cons.injEq, Value.slice.injEq, and_true] at e
  obtain ⟨rfl, rfl, rfl⟩ := e
  obtain ⟨A1, n1, c1, rfl⟩ := okWide_slice Tryd.underlying22 (hval 1 22 v1 rfl rfl)
  have k1 := h1
  have lt1 : ∀ x ∈ p1, x.block < W.heap.size := by obtain ⟨m, hm⟩ := k1; exact DataW.trod_lt m _ _ _ hm
  obtain ⟨l1, z1, hv1⟩ : ∃ l, (Kd.slice 24 (Kd.slice 41 k41)).K W l [Value.slice A1 n1 c1] ∧ (fun v_ => (v_.length ≤ maxLen ∧ ∀ x_ ∈ v_, (x_.length ≤ maxLen ∧ ∀ x_x_ ∈ x_, V41 x_x_))) l := by
    obtain ⟨fuel, hf⟩ := h1
    exact (opens_slice Tryd.underlying22 (by kernel_rfl) (opens_slice Tryd.underlying24 (by kernel_rfl) opens41)) enc W _ _ _ _ _ _ hf
  obtain ⟨A_, c_, e, hc1, hr1⟩ := z1
  simp only [List.cons.injEq, Value.slice.injEq, and_true] at e
  obtain ⟨rfl, rfl, rfl⟩ := e
  obtain ⟨cs2, rfl⟩ := agg_array Tryd.underlying55 (hval 2 55 v2 rfl rfl)
  have k2 := h2
  have lt2 : ∀ x ∈ p2, x.block < W.heap.size := by obtain ⟨m, hm⟩ := k2; exact DataW.trod_lt m _ _ _ hm
  obtain ⟨x2, z2, hv2⟩ : ∃ x, k55.K W x cs2.toList ∧ V55 x := by
    obtain ⟨fuel, hf⟩ := h2
    exact opens55 enc W _ _ _ _ _ _ hf
  obtain ⟨c2_0, w2_0, e2_0, h2_0, h2_1⟩ := z2
  have ec2_0 := h2_0
  have ec2_1 := h2_1
  obtain rfl : cs2 = #[.int .u8 x2.f0, .int .u8 x2.f1] := by
    apply arr_of (l := [.int .u8 x2.f0, .int .u8 x2.f1])
    rw [e2_0, ec2_0, ec2_1]
    rfl
  obtain ⟨b2_0, b2_1⟩ := x2
  obtain ⟨k, h⟩ := Pure.ThroughParts l0 l1 b2_0 b2_1 hv0 hv1 (by exact hv2.1) (by exact hv2.2)
  refine (epitomelaw13_ThroughParts.calls k _ _ l0 _ _ l1 b2_0 b2_1 true ⟨rfl⟩ W hG hr0 hc0 hr1 hc1 h).mono ?_
  rintro e W' ⟨rfl, hd⟩
  have bel : Below W.heap.size W W' := hd
  exact ⟨_, rfl, _, _, _, [], _, [], hW', trodAll_mk1 (shut_bool Tryd.underlying4 _), (trodAll_cons_mk (Below.trod laidOut (by kernel_rfl) (of_decide_eq_true (by kernel_rfl)) k0 bel lt0) (trodAll_cons_mk (Below.trod laidOut (by kernel_rfl) (of_decide_eq_true (by kernel_rfl)) k1 bel lt1) (trodAll_cons_mk (Below.trod laidOut (by kernel_rfl) (of_decide_eq_true (by kernel_rfl)) k2 bel lt2) trodAll_mk0))), rfl, bel.frame _, fun h => by cases h⟩
theorem over : Rows.throughPartsRow.holds Tryd.pinned (OpenSpec.ofChange Rows.throughPartsSpec) :=
  OpenClaim.holds_of_wide 10 Tryd.f10 rfl rfl rfl rfl rfl rfl rfl ⟨rfl, rfl, rfl, rfl, rfl⟩ rfl rfl rfl rfl rfl (by kernel_rfl) Tryd.func10 (by kernel_rfl)
    (of_decide_eq_true (by kernel_rfl)) (by unfold Func.isWrapper; first | (rw [if_pos (by decide +kernel)]; kernel_rfl) | (rw [if_neg (by decide +kernel)]; exact ⟨rfl, rfl⟩))
    (fun os started H enc _ => lifted os started H enc)
theorem card : Claim7.holds Tryd.pinned (.plain (OpenSpec.ofChange Rows.throughPartsSpec)) Rows.throughPartsCard :=
  Claim7.holds_tied_plain_at .later [] [.data, .data, .pinned] true (true, "8fb316f5ff7554be16da48bf4668a02c6c874877236834196521f490ba2e0f73") false
    over (fun _ h => by cases h) (by kernel_rfl) (fun _ h => by cases h) throughParts_row_tie rfl ⟨rfl, rfl⟩ (by kernel_rfl) rfl
    (fun f fn hf hfn => by
      obtain rfl : f = 10 := Option.some.inj ((show Tryd.prog.funcNamed "epitome/epitomelaw13.ThroughParts" = some 10 by kernel_rfl).symm.trans hf) |>.symm
      obtain rfl : fn = Tryd.f10 := (Option.some.inj (Tryd.func10.symm.trans hfn)).symm
      exact ⟨by kernel_rfl, fun j t ht => by
        rw [Tryd.params10] at ht
        match j, ht with
        | 0, ht =>
          obtain rfl : t = 24 := by simpa using ht.symm
          exact (show Tryd.prog.wantsStandIn 24 = false by kernel_rfl)
        | 1, ht =>
          obtain rfl : t = 22 := by simpa using ht.symm
          exact (show Tryd.prog.wantsStandIn 22 = false by kernel_rfl)
        | 2, ht =>
          obtain rfl : t = 55 := by simpa using ht.symm
          exact (show Tryd.prog.wantsStandIn 55 = false by kernel_rfl)
        | j + 3, ht => simp at ht⟩)
    (by kernel_rfl)
theorem proved : Rows.ThroughPartsCardSaid := card
end Go.Proofs.YthhgobiaecehbaaDoor.throughParts
namespace Go.Proofs.YthhgobiaecehbaaDoor
theorem throughParts_holds : Rows.ThroughPartsCardSaid := throughParts.proved
#print axioms throughParts_holds
end Go.Proofs.YthhgobiaecehbaaDoor
end
