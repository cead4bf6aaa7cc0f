import Derived.Test.YthhgobiaecehbaaDoorKCFuseOneF
import Derived.Test.YthhgobiaecehbaaDoorKCFuseOnePA
import Derived.Below
import Derived.Deep.Draws
import Derived.Deep.AppendLies
import Derived.Maps.AppendAt
import Derived.OwnWalk
import Derived.Laws.BytesArg
import Derived.Laws.MakeOwn
import Derived.Laws.OwnMore
import Derived.Deep.OwnRows
import Derived.Tactics
import Derived.Lib.ConvBytes
import Derived.Laws.Slices
import Derived.WalkKit
import Derived.KernelRfl
import Derived.RowKit3
import Derived.Deep.LoopGhost
import Derived.Deep.QuietTactic
import Derived.BigQuiet
import Derived.WideLaws
import Derived.Deep.DeepCutAuto
import Derived.Deep.CutBlock
import Derived.Deep.RegionHeld3
import Derived.Laws.Rows
import Derived.Lib.AppendStr
import Derived.ArgAppend
import Derived.Laws.IdiomCopy
import Derived.RowKit
import Derived.OrdersHeld
import Derived.Laws.BitsLemmas
import Derived.Laws.StructEq
import Derived.Test.YthhgobiaecehbaaDoorProg
import Derived.Handy
import Derived.Shelf.Unicode.DecodeSlow
import Derived.Ground.NamesProg
import Derived.Shelf.Unicode.ValidAny
import Derived.Laws.RangeString
import Derived.Laws.RangeAny
import Derived.Lib.RuneCount
import Derived.Laws.IdiomStrings
import Derived.Laws.Cover4
import Derived.Great.BuildSlice
import Derived.ProofKit
import Derived.OpenShut
import Derived.ShutString
import Derived.ChangeOld
import Derived.SizedLaws
import Derived.Lib.ValidLaws
import Derived.Test.YthhgobiaecehbaaDoorRows
import Derived.Lib.LaidU8T
import Derived.Lib.LaidIn
import Derived.LaidLaws
import Derived.Test.YthhgobiaecehbaaDoorTie
import Derived.Test.YthhgobiaecehbaaDoorCards
import Derived.Carry
import Derived.ChangeSame
import Derived.ChangeVars
import Derived.JoinedOf
import Derived.SevenTiedAt
section
namespace Go.Proofs.YthhgobiaecehbaaDoor.F
open Go.RowKit Go.Proofs.YthhgobiaecehbaaDoorW.PrintWords Go.Proofs.YthhgobiaecehbaaDoorW.PrintLast Go.Proofs.YthhgobiaecehbaaDoorW.PrintMore
attribute [local go_sem] max2_int min2_int max_two min_two max_three min_three max_four min_four cell_setCell_isSome
set_option linter.unusedVariables false
set_option linter.unusedSimpArgs false
def epitomelaw10_FuseOne.Pure : Prop := ∀ (l0 : List (S41)) (a1 : Int) (a2 : Int), (l0.length ≤ maxLen ∧ ∀ x_ ∈ l0, V41 x_) → (Lit.int .u8 a1).wf = true → (Lit.int .i64 a2).wf = true → ∃ k, epitomelaw10_FuseOne.f k l0 a1 a2 = some true
end Go.Proofs.YthhgobiaecehbaaDoor.F
end
section
namespace Go.Proofs.YthhgobiaecehbaaDoor.F
open Go.RowKit Go.Proofs.YthhgobiaecehbaaDoorW.PrintWords Go.Proofs.YthhgobiaecehbaaDoorW.PrintLast Go.Proofs.YthhgobiaecehbaaDoorW.PrintMore
set_option linter.unusedVariables false
set_option linter.unusedSimpArgs false
theorem Pure.FuseOne : epitomelaw10_FuseOne.Pure := by
  intro l0 a odd h0 h1 h2
  apply Ev.rounds
  obtain ⟨n, hn, en⟩ := rem64 a h1
  have EN := Aside0.mk en
  clear en
  obtain ⟨us, hf0, f0⟩ := fitB l0 h0.1 h0.2 n (by omega)
  have c0 := f0.cout
  have i0 := f0.cinU
  have o0 := f0.coutU
  have n0 := f0.cin
  have l9 := f0.len
  obtain ⟨eA, _, _, _, _⟩ := fuseG_is (w := []) (n := n) trivial (by omega)
  obtain ⟨eB, _, _, _, _⟩ := fuseG_is (w := [us]) (n := n) ⟨f0.ok, n0, by omega, trivial⟩ (by omega)
  have qA : fuseU (List.replicate n .k) (exR []) = List.replicate n .k := rfl
  have qB : fuseU (List.replicate n .k) (exR [us]) = exU us := by
    show compU (List.replicate n .k) (exU us) = _
    rw [← i0, comp_keep_left]
  rw [qA, canon_keeps] at eA
  rw [qB] at eB
  have t1 := same_is ((keepU n).map Un.sp) ((keepU n).map Un.sp) (by rw [List.length_map]; unfold keepU; split <;> simp)
  have m1 := canon_less us
  have t2 := same_is ((canon (exU us)).map Un.sp) ((canon (exU us)).map Un.sp) (by rw [List.length_map]; omega)
  rw [decide_eq_true rfl] at t1 t2
  have hz : ∀ s ∈ l0, s.f2.size ≤ 9223372036854775807 := fun s hs => (h0.2 s hs).2.2
  by_cases hr : 0 ≤ odd ∧ odd ≤ 1048576
  · obtain ⟨m, rfl⟩ : ∃ m : Nat, odd = (m : Int) := ⟨odd.toNat, by omega⟩
    obtain ⟨r, er⟩ := next_tot (m : Int) l0 h0.1 hz
    have okE : Ok [] := ⟨(fun u hu => by cases hu), by simp, by simp, by simp⟩
    obtain ⟨r2, er2⟩ : ∃ r2, Ev (fun k => fuse_Chain.f k (m : Int) [l0]) r2 := by
      unfold fuse_Chain.f
      by_cases h : r.2 = 0
      · refine ⟨(r.1, 0), Ev.bind (opKeep_is m (by omega)) (ev_if_pos rfl ?_)⟩
        show Ev (fun k => (fuse_next.f k (m : Int) l0).bind fun z => if z.2 = 0 then fuseC k z.1 [] else some (0, z.2)) _
        exact Ev.bind er (ev_if_pos h (Ev.now _))
      · refine ⟨(0, r.2), Ev.bind (opKeep_is m (by omega)) (ev_if_pos rfl ?_)⟩
        show Ev (fun k => (fuse_next.f k (m : Int) l0).bind fun z => if z.2 = 0 then fuseC k z.1 [] else some (0, z.2)) _
        exact Ev.bind er (ev_if_neg h (Ev.now _))
    have tail : ∀ c : List Sp × Int, Ev (fun k => fuse_Of.f k (m : Int) [[]]) c → (if m = 0 then c.2 = 0 else c.2 = 5) → Ev (fun k => epitomelaw10_FuseOne.f k l0 a (m : Int)) true := by
      intro c ec hc
      unfold epitomelaw10_FuseOne.f
      rw [EN.out]
      refine Ev.bind shown10 (Ev.bind hf0 (Ev.bind eA (Ev.bind (opKeep_is n (by omega)) (Ev.bind eB (Ev.bind ec (Ev.bind er2 ?_))))))
      refine ev_if_pos (by omega) (ev_if_pos (by omega) (ev_if_pos rfl (ev_if_pos rfl (ev_if_pos rfl (ev_if_pos rfl (Ev.bind t1 (ev_if_pos rfl (Ev.bind (normalOk_is f0.ok) (Ev.bind t2 (ev_if_pos rfl ?_))))))))))
      by_cases hm : m = 0
      · rw [if_pos hm] at hc
        exact ev_if_pos (by omega) (ev_if_pos hc (Ev.now true))
      · rw [if_neg hm] at hc
        refine ev_if_neg (by omega) ?_
        rw [hc]
        exact Ev.now true
    by_cases hm : m = 0
    · subst hm
      obtain ⟨eC, _, _, _, _⟩ := fuseG_is (w := [[]]) (n := 0) ⟨okE, by simp, by simp, trivial⟩ (by omega)
      exact tail _ eC (by simp)
    · have eC : Ev (fun k => fuse_Of.f k (m : Int) [[]]) ([], 5) := by
        unfold fuse_Of.f
        refine Ev.bind (opKeep_is m (by omega)) (ev_if_pos rfl ?_)
        exact fuseL_odd (us := []) (rest := []) (keepU_ok m (by omega)) okE (by rw [keepU_out]; simpa using hm)
      exact tail _ eC (by rw [if_neg hm])
  · have eK := opKeep_out odd (by omega)
    have eC : Ev (fun k => fuse_Of.f k odd [[]]) ([], 2) := by
      unfold fuse_Of.f
      exact Ev.bind eK (ev_if_neg (by decide) (Ev.now _))
    have eD : Ev (fun k => fuse_Chain.f k odd [l0]) (0, 2) := by
      unfold fuse_Chain.f
      exact Ev.bind eK (ev_if_neg (by decide) (Ev.now _))
    unfold epitomelaw10_FuseOne.f
    rw [EN.out]
    refine Ev.bind shown10 (Ev.bind hf0 (Ev.bind eA (Ev.bind (opKeep_is n (by omega)) (Ev.bind eB (Ev.bind eC (Ev.bind eD ?_))))))
    by_cases h3 : odd ≥ 0
    · refine ev_if_pos h3 (ev_if_neg (by omega) (ev_if_pos rfl (ev_if_pos rfl ?_)))
      refine ev_if_pos rfl (ev_if_pos rfl (ev_if_pos rfl (ev_if_pos rfl (Ev.bind t1 (ev_if_pos rfl (Ev.bind (normalOk_is f0.ok) (Ev.bind t2 (ev_if_pos rfl ?_))))))))
      exact ev_if_pos rfl (ev_if_neg (by omega) (Ev.now true))
    · refine ev_if_neg h3 (ev_if_pos rfl (ev_if_pos rfl ?_))
      refine ev_if_pos rfl (ev_if_pos rfl (ev_if_pos rfl (ev_if_pos rfl (Ev.bind t1 (ev_if_pos rfl (Ev.bind (normalOk_is f0.ok) (Ev.bind t2 (ev_if_pos rfl ?_))))))))
      exact ev_if_pos rfl (ev_if_neg (by omega) (Ev.now true))
end Go.Proofs.YthhgobiaecehbaaDoor.F
end
section
namespace Go.Proofs.YthhgobiaecehbaaDoor.fuseOne
open Go.ChangeShapes Go.WideShapes Go.ChangeAt Go.RowKit Go.Proofs.YthhgobiaecehbaaDoor.F
open Go.Proofs.YthhgobiaecehbaaDoorW.PrintWords
open Go.ChangeMaps (open_string shut_string)
set_option linter.unusedVariables false
theorem own : ownKnob Tryd.prog.godebug = none := by kernel_rfl
theorem laidOut : laidOutB Tryd.prog = true := by kernel_rfl
theorem laid_met (os : Os) (args : Array Value) : laidMetH Tryd.prog Rows.fuseOneRow.laid ((laidWorld os).forCall (fun _ _ => 0) ⟨#[], args, []⟩).memory :=
  (LaidIn.of_run (l := Rows.fuseOneRow.laid) [2, 0, 1] 8 (by kernel_rfl) (by kernel_rfl) (by kernel_rfl) (by kernel_rfl)).met
set_option maxRecDepth 100000 in
theorem lifted (os : Os) (started : os.Started) (H : Type) (enc : TypeId × Value → H) :
    ReturnsInHanded {} Tryd.checked os 6 .any (fun w args => (Rows.fuseOneSpec.pre enc Tryd.prog Tryd.f6 [] false w args ∧ laidMetH Tryd.prog Rows.fuseOneRow.laid w) ∧ sizedMet enc Tryd.prog Tryd.f6 (OpenSpec.ofChange Rows.fuseOneSpec) false w args) (Rows.fuseOneSpec.post enc Tryd.prog Tryd.f6 false true false false) := by
  refine returnsInHanded_of_change_and (C := Tryd.checked) (X := (fun w _ => laidMetH Tryd.prog Rows.fuseOneRow.laid w)) (fun _ _ _ hh h => h.of_heap hh) own started (by kernel_rfl) Tryd.func6
    (ChangeSpec.witness_at (enc := enc) (C := Tryd.checked) (os := os) (X := (fun w _ => laidMetH Tryd.prog Rows.fuseOneRow.laid w)) false (laidWorld os) #[.slice none 0 0, .int .u8 0, .int .i64 0] 8 rfl (by kernel_rfl) (by kernel_rfl) (by kernel_rfl) (by kernel_rfl) (by kernel_rfl) (laid_met os _)) ?_
  intro W base args ds gs before hval0 hW _ _ hL _
  have hG : Glob W := glob_of_reads (Lib.laidMet.reads hL (.tail _ (.tail _ (.head _)))) (Lib.laidMet.reads hL (.head _)) (Lib.laidMet.reads hL (.tail _ (.head _)))
  have hval : ∀ (j : Nat) t v, Tryd.f6.params[j]? = some t → args[j]? = some v → Value.okWide Tryd.prog W .any base t v := hval0
  have hW' := hW
  obtain ⟨p, q, hA0, hV, rfl, hfz, hnd⟩ := hW
  have hA : DataW.TrodAll enc Tryd.prog W 0 (fun _ => true) true Tryd.f6.params.toList args.toList ds p := hA0
  rw [Tryd.params6] at hA hval
  obtain ⟨v0, vs0, d0, ds0, p0, q0, hargs, rfl, rfl, h0, r0⟩ := trodAll_cons hA
  obtain ⟨v1, vs1, d1, ds1, p1, q1, rfl, rfl, rfl, h1, r1⟩ := trodAll_cons r0
  obtain ⟨v2, vs2, d2, ds2, p2, q2, rfl, rfl, rfl, h2, r2⟩ := trodAll_cons r1
  obtain ⟨rfl, rfl, rfl⟩ := trodAll_nil r2
  obtain rfl : args = #[v0, v1, v2] := by cases args; simp_all
  obtain ⟨rfl, rfl⟩ := trodVars_none hV
  obtain ⟨A0, n0, c0, rfl⟩ := okWide_slice Tryd.underlying24 (hval 0 24 v0 rfl rfl)
  have k0 := h0
  have lt0 : ∀ x ∈ p0, x.block < W.heap.size := by obtain ⟨m, hm⟩ := k0; exact DataW.trod_lt m _ _ _ hm
  obtain ⟨l0, z0, hv0⟩ : ∃ l, (Kd.slice 41 k41).K W l [Value.slice A0 n0 c0] ∧ (fun v_ => (v_.length ≤ maxLen ∧ ∀ x_ ∈ v_, V41 x_)) l := by
    obtain ⟨fuel, hf⟩ := h0
    exact (opens_slice Tryd.underlying24 (by kernel_rfl) opens41) enc W _ _ _ _ _ _ hf
  obtain ⟨A_, c_, e, hc0, hr0⟩ := z0
  simp only [List.cons.injEq, Value.slice.injEq, and_true] at e
  obtain ⟨rfl, rfl, rfl⟩ := e
  obtain ⟨a1, rfl, rfl, rfl, hv1⟩ := open_int Tryd.underlying5 (hval 1 5 v1 rfl rfl) h1
  obtain ⟨a2, rfl, rfl, rfl, hv2⟩ := open_int Tryd.underlying3 (hval 2 3 v2 rfl rfl) h2
  obtain ⟨k, h⟩ := Pure.FuseOne l0 a1 a2 hv0 hv1 hv2
  refine (epitomelaw10_FuseOne.calls k (fun k_ => k_ < W.heap.size) _ _ l0 a1 a2 true ⟨rfl⟩ W hG (Kd.V_mk hc0 (Kd.C_F k41_heap hr0)) h).mono ?_
  rintro e W' ⟨rfl, hd⟩
  have bel : Below W.heap.size W W' := hd
  exact ⟨_, rfl, _, _, _, [], _, [], hW', trodAll_mk1 (shut_bool Tryd.underlying4 _), (trodAll_cons_mk (Below.trod laidOut (by kernel_rfl) (of_decide_eq_true (by kernel_rfl)) k0 bel lt0) (trodAll_cons_mk (shut_int Tryd.underlying5 hv1) (trodAll_cons_mk (shut_int Tryd.underlying3 hv2) trodAll_mk0))), rfl, bel.frame _, fun h => by cases h⟩
theorem over : Rows.fuseOneRow.holds Tryd.pinned (OpenSpec.ofChange Rows.fuseOneSpec) :=
  OpenClaim.holds_of_wide 6 Tryd.f6 rfl rfl rfl rfl rfl rfl rfl ⟨rfl, rfl, rfl, rfl, rfl⟩ rfl rfl rfl rfl rfl (by kernel_rfl) Tryd.func6 (by kernel_rfl)
    (of_decide_eq_true (by kernel_rfl)) (by unfold Func.isWrapper; first | (rw [if_pos (by decide +kernel)]; kernel_rfl) | (rw [if_neg (by decide +kernel)]; exact ⟨rfl, rfl⟩))
    (fun os started H enc _ => lifted os started H enc)
theorem card : Claim7.holds Tryd.pinned (.plain (OpenSpec.ofChange Rows.fuseOneSpec)) Rows.fuseOneCard :=
  Claim7.holds_tied_plain_at .later [] [.data, .data, .pinned] true (true, "8fb316f5ff7554be16da48bf4668a02c6c874877236834196521f490ba2e0f73") false
    over (fun _ h => by cases h) (by kernel_rfl) (fun _ h => by cases h) fuseOne_row_tie rfl ⟨rfl, rfl⟩ (by kernel_rfl) rfl
    (fun f fn hf hfn => by
      obtain rfl : f = 6 := Option.some.inj ((show Tryd.prog.funcNamed "epitome/epitomelaw10.FuseOne" = some 6 by kernel_rfl).symm.trans hf) |>.symm
      obtain rfl : fn = Tryd.f6 := (Option.some.inj (Tryd.func6.symm.trans hfn)).symm
      exact ⟨by kernel_rfl, fun j t ht => by
        rw [Tryd.params6] at ht
        match j, ht with
        | 0, ht =>
          obtain rfl : t = 24 := by simpa using ht.symm
          exact (show Tryd.prog.wantsStandIn 24 = false by kernel_rfl)
        | 1, ht =>
          obtain rfl : t = 5 := by simpa using ht.symm
          exact (show Tryd.prog.wantsStandIn 5 = false by kernel_rfl)
        | 2, ht =>
          obtain rfl : t = 3 := by simpa using ht.symm
          exact (show Tryd.prog.wantsStandIn 3 = false by kernel_rfl)
        | j + 3, ht => simp at ht⟩)
    (by kernel_rfl)
theorem proved : Rows.FuseOneCardSaid := card
end Go.Proofs.YthhgobiaecehbaaDoor.fuseOne
namespace Go.Proofs.YthhgobiaecehbaaDoor
theorem fuseOne_holds : Rows.FuseOneCardSaid := fuseOne.proved
#print axioms fuseOne_holds
end Go.Proofs.YthhgobiaecehbaaDoor
end
