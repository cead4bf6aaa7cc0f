import Derived.Test.YtabodcedlhahfaaDoorKUnderDropsA
import Derived.Test.YtabodcedlhahfaaDoorKUnderPA
import Derived.Below
import Derived.Deep.Draws
import Derived.Deep.AppendLies
import Derived.Maps.AppendAt
import Derived.OwnWalk
import Derived.Laws.BytesArg
import Derived.Laws.MakeOwn
import Derived.Laws.OwnMore
import Derived.Deep.OwnRows
import Derived.Tactics
import Derived.Lib.ConvBytes
import Derived.Laws.Slices
import Derived.WalkKit
import Derived.KernelRfl
import Derived.RowKit3
import Derived.Deep.LoopGhost
import Derived.Deep.QuietTactic
import Derived.BigQuiet
import Derived.WideLaws
import Derived.Deep.DeepCutAuto
import Derived.Deep.CutBlock
import Derived.Deep.RegionHeld3
import Derived.Laws.Rows
import Derived.Lib.AppendStr
import Derived.ArgAppend
import Derived.Laws.IdiomCopy
import Derived.RowKit
import Derived.OrdersHeld
import Derived.Laws.BitsLemmas
import Derived.Laws.StructEq
import Derived.Test.YtabodcedlhahfaaDoorProg
import Derived.Handy
import Derived.Shelf.Unicode.DecodeSlow
import Derived.Ground.NamesProg
import Derived.Shelf.Unicode.ValidAny
import Derived.Laws.RangeString
import Derived.Laws.RangeAny
import Derived.Lib.RuneCount
import Derived.Laws.IdiomStrings
import Derived.Laws.Cover4
import Derived.Great.BuildSlice
import Derived.Defers
import Derived.Laws.EntriesVeiled
import Derived.ProofKit
import Derived.OpenShut
import Derived.ShutString
import Derived.ChangeOld
import Derived.SizedLaws
import Derived.Lib.ValidLaws
import Derived.Test.YtabodcedlhahfaaDoorRows
import Derived.Lib.LaidU8T
import Derived.Lib.LaidIn
import Derived.LaidLaws
import Derived.Test.YtabodcedlhahfaaDoorTie
import Derived.Test.YtabodcedlhahfaaDoorCards
import Derived.Carry
import Derived.ChangeSame
import Derived.ChangeVars
import Derived.JoinedOf
import Derived.SevenTiedAt
section
namespace Go.Proofs.YtabodcedlhahfaaDoor.F
open Go.RowKit Go.Proofs.YtabodcedlhahfaaDoorW.PrintWords Go.Proofs.YtabodcedlhahfaaDoorW.PrintLast Go.Proofs.YtabodcedlhahfaaDoorW.PrintMore
attribute [local go_sem] max2_int min2_int max_two min_two max_three min_three max_four min_four cell_setCell_isSome
set_option linter.unusedVariables false
set_option linter.unusedSimpArgs false
def epitomelaw12_UnderDrops.Pure : Prop := ∀ (l0 : List (S26)) (l1 : List (S26)) (a2 : Int), (l0.length ≤ maxLen ∧ ∀ x_ ∈ l0, V26 x_) → (l1.length ≤ maxLen ∧ ∀ x_ ∈ l1, V26 x_) → (Lit.int .u8 a2).wf = true → ∃ k, epitomelaw12_UnderDrops.f k l0 l1 a2 = some true
end Go.Proofs.YtabodcedlhahfaaDoor.F
end
section
namespace Go.Proofs.YtabodcedlhahfaaDoor.F
open Go.RowKit Go.Proofs.YtabodcedlhahfaaDoorW.PrintWords Go.Proofs.YtabodcedlhahfaaDoorW.PrintLast Go.Proofs.YtabodcedlhahfaaDoorW.PrintMore
set_option linter.unusedVariables false
set_option linter.unusedSimpArgs false
theorem dropsU_app (a b : List U) : dropsU (a ++ b) = dropsU a + dropsU b := by
  induction a with
  | nil => simp [dropsU]
  | cons u a ih => cases u <;> simp only [List.cons_append, dropsU, ih] <;> omega
theorem dropsU_d (n : Nat) : dropsU (List.replicate n U.d) = n := by
  induction n with
  | zero => rfl
  | succ n ih => rw [List.replicate_succ]; simp only [dropsU, ih]
theorem dropsU_k (n : Nat) : dropsU (List.replicate n U.k) = 0 := by
  induction n with
  | zero => rfl
  | succ n ih => rw [List.replicate_succ]; exact ih
theorem dropsU_put (l : List Int) : dropsU (l.map U.p) = 0 := by
  induction l with
  | nil => rfl
  | cons a l ih => rw [List.map_cons]; exact ih
theorem dropsU_le : ∀ x : List U, dropsU x ≤ cinU x
  | [] => Nat.le_refl _
  | .p _ :: x => by have := dropsU_le x; simp only [dropsU, cinU]; omega
  | .k :: x => by have := dropsU_le x; simp only [dropsU, cinU]; omega
  | .d :: x => by have := dropsU_le x; simp only [dropsU, cinU]; omega
end Go.Proofs.YtabodcedlhahfaaDoor.F
end
section
namespace Go.Proofs.YtabodcedlhahfaaDoor.F
open Go.RowKit Go.Proofs.YtabodcedlhahfaaDoorW.PrintWords Go.Proofs.YtabodcedlhahfaaDoorW.PrintLast Go.Proofs.YtabodcedlhahfaaDoorW.PrintMore
set_option linter.unusedVariables false
set_option linter.unusedSimpArgs false
theorem drops_loop {us : List Un} (hu : Ok us) : ∀ (r pre : List Un), us = pre ++ r → Ev (fun k => epitomelaw12_drops.l0 k (us.map Un.sp) ((dropsU (exU pre) : Nat) : Int) (pre.length : Int)) ((dropsU (exU us) : Nat) : Int)
  | [], pre, h => by
    rw [List.append_nil] at h
    subst h
    exact Ev.step (f := fun _ => some ((dropsU (exU us) : Nat) : Int)) (fun k => by rw [epitomelaw12_drops.l0, if_neg (by simp)]) (Ev.now _)
  | u :: r, pre, h => by
    have ih := drops_loop hu r (pre ++ [u]) (by simp [h])
    have hlt : (pre.length : Int) < ((us.map Un.sp).length : Int) := by subst h; simp <;> omega
    have hpl : pre.length ≤ us.length := by rw [h]; simp
    have hlen := hu.len
    have hrd : rd_T26 (us.map Un.sp) (pre.length : Int) = u.sp := by
      rw [h, List.map_append, List.map_cons]
      exact rdS_at (by simp)
    have b1 : dropsU (exU (pre ++ [u])) ≤ 1048576 := by
      have h1 := dropsU_le (exU (pre ++ [u]))
      have h2 := cinU_ex (pre ++ [u])
      have h3 := hu.cin
      rw [h, show pre ++ u :: r = (pre ++ [u]) ++ r by simp, List.map_append, List.sum_append] at h3
      omega
    rw [exU_append, dropsU_app, show exU [u] = u.ex by simp [exU]] at ih b1
    rw [List.length_append, List.length_singleton] at ih
    refine Ev.step (f := fun k => epitomelaw12_drops.l0 k (us.map Un.sp) ((dropsU (exU pre) + dropsU u.ex : Nat) : Int) ((pre.length + 1 : Nat) : Int)) (fun k => ?_) ih
    cases u with
    | put p =>
      rw [epitomelaw12_drops.l0, if_pos hlt, if_pos (by omega), hrd, if_neg (show ¬ (Un.put p).sp.f0 = 3 by simp [Un.sp]), w64_succ _ (by omega), show (Un.put p).ex = p.map .p from rfl, dropsU_put]
      rfl
    | keep n =>
      rw [epitomelaw12_drops.l0, if_pos hlt, if_pos (by omega), hrd, if_neg (show ¬ (Un.keep n).sp.f0 = 3 by simp [Un.sp]), w64_succ _ (by omega), show (Un.keep n).ex = List.replicate n .k from rfl, dropsU_k]
      rfl
    | drop n =>
      rw [show (Un.drop n).ex = List.replicate n .d from rfl, dropsU_d] at b1 ⊢
      rw [epitomelaw12_drops.l0, if_pos hlt, if_pos (by omega), hrd, if_pos (show (Un.drop n).sp.f0 = 3 from rfl), w64_succ _ (by omega), show (Un.drop n).sp.f1 = (n : Int) from rfl, w64 (by omega) (by omega)]
      congr 1
theorem drops_is {us : List Un} (hu : Ok us) : Ev (fun k => epitomelaw12_drops.f k (us.map Un.sp)) ((dropsU (exU us) : Nat) : Int) := by
  unfold epitomelaw12_drops.f
  exact drops_loop hu us [] rfl
theorem Pure.UnderDrops : epitomelaw12_UnderDrops.Pure := by
  intro l0 l1 a h0 h1 h2
  apply Ev.rounds
  obtain ⟨n, hn, en⟩ := rem64 a h2
  obtain ⟨us, hf0, f0⟩ := fitB l0 h0.1 h0.2 n (by omega)
  obtain ⟨vs, hf1, f1⟩ := fitB l1 h1.1 h1.2 n (by omega)
  have c0 := f0.cout
  have c1 := f1.cout
  have i0 := f0.cinU
  have i1 := f1.cinU
  have o0 := f0.coutU
  have o1 := f1.coutU
  have n0 := f0.cin
  have n1 := f1.cin
  have p0 := puts_le (exU us)
  have p1 := puts_le (exU vs)
  have hcu : cinU (exU us) = cinU (exU vs) := by omega
  have oB := overOk f0.runes hcu (by omega) (by omega)
  have oA := underOk f1.runes hcu.symm (by omega) (by omega)
  have s1 := over_sizes (exU us) (exU vs) hcu
  have s2 := under_sizes (exU vs) (exU us) hcu.symm
  have bo := both_out (exU us) (exU vs) hcu
  have e1 := opIn_is oB
  have e2 := opIn_is oA
  have e3 := opOut_is oB
  have e4 := opOut_is oA
  have d1 := drops_is oB
  have d2 := drops_is oA
  rw [canon_in] at e1 e2
  rw [canon_out] at e3 e4
  rw [ex_canon] at d1 d2
  have b1 := dropsU_le (overU (exU us) (exU vs))
  have b2 := dropsU_le (underU (exU vs) (exU us))
  have b3 := dropsU_le (exU us)
  have b4 := dropsU_le (exU vs)
  unfold epitomelaw12_UnderDrops.f
  rw [en]
  refine Ev.bind shown12 (Ev.bind hf0 (Ev.bind hf1 (Ev.bind (meet_is f0.ok f1.ok (by omega) (by omega) (by omega)) (ev_if_pos rfl (ev_if_pos rfl ?_)))))
  refine Ev.bind e1 (Ev.bind (opOut_is f1.ok) (ev_if_pos (by omega) (Ev.bind e2 (Ev.bind (opOut_is f0.ok) (ev_if_pos (by omega) ?_)))))
  refine Ev.bind e3 (Ev.bind e4 (ev_if_pos (by omega) (Ev.bind (drops_is f1.ok) (Ev.bind d1 (Ev.bind (drops_is f0.ok) (Ev.bind d2 ?_))))))
  rw [w64 (by omega) (by omega), w64 (by omega) (by omega), show ((((dropsU (exU vs) : Nat) : Int) + ((dropsU (overU (exU us) (exU vs)) : Nat) : Int)) == (((dropsU (exU us) : Nat) : Int) + ((dropsU (underU (exU vs) (exU us)) : Nat) : Int))) = true by simp; omega]
  exact Ev.now true
end Go.Proofs.YtabodcedlhahfaaDoor.F
end
section
namespace Go.Proofs.YtabodcedlhahfaaDoor.underDrops
open Go.ChangeShapes Go.WideShapes Go.ChangeAt Go.RowKit Go.Proofs.YtabodcedlhahfaaDoor.F
open Go.Proofs.YtabodcedlhahfaaDoorW.PrintWords
open Go.ChangeMaps (open_string shut_string)
set_option linter.unusedVariables false
theorem own : ownKnob Tryd.prog.godebug = none := by kernel_rfl
theorem laidOut : laidOutB Tryd.prog = true := by kernel_rfl
theorem laid_met (os : Os) (args : Array Value) : laidMetH Tryd.prog Rows.underDropsRow.laid ((laidWorld os).forCall (fun _ _ => 0) ⟨#[], args, []⟩).memory :=
  (LaidIn.of_run (l := Rows.underDropsRow.laid) [2, 0, 1] 8 (by kernel_rfl) (by kernel_rfl) (by kernel_rfl) (by kernel_rfl)).met
set_option maxRecDepth 100000 in
theorem lifted (os : Os) (started : os.Started) (H : Type) (enc : TypeId × Value → H) :
    ReturnsInHanded {} Tryd.checked os 5 .any (fun w args => (Rows.underDropsSpec.pre enc Tryd.prog Tryd.f5 [] false w args ∧ laidMetH Tryd.prog Rows.underDropsRow.laid w) ∧ sizedMet enc Tryd.prog Tryd.f5 (OpenSpec.ofChange Rows.underDropsSpec) false w args) (Rows.underDropsSpec.post enc Tryd.prog Tryd.f5 false true false false) := by
  refine returnsInHanded_of_change_and (C := Tryd.checked) (X := (fun w _ => laidMetH Tryd.prog Rows.underDropsRow.laid w)) (fun _ _ _ hh h => h.of_heap hh) own started (by kernel_rfl) Tryd.func5
    (ChangeSpec.witness_at (enc := enc) (C := Tryd.checked) (os := os) (X := (fun w _ => laidMetH Tryd.prog Rows.underDropsRow.laid w)) false (laidWorld os) #[.slice none 0 0, .slice none 0 0, .int .u8 0] 8 rfl (by kernel_rfl) (by kernel_rfl) (by kernel_rfl) (by kernel_rfl) (by kernel_rfl) (laid_met os _)) ?_
  intro W base args ds gs before hval0 hW _ _ hL _
  have hG : Glob W := glob_of_reads (Lib.laidMet.reads hL (.tail _ (.tail _ (.head _)))) (Lib.laidMet.reads hL (.head _)) (Lib.laidMet.reads hL (.tail _ (.head _)))
  have hval : ∀ (j : Nat) t v, Tryd.f5.params[j]? = some t → args[j]? = some v → Value.okWide Tryd.prog W .any base t v := hval0
  have hW' := hW
  obtain ⟨p, q, hA0, hV, rfl, hfz, hnd⟩ := hW
  have hA : DataW.TrodAll enc Tryd.prog W 0 (fun _ => true) true Tryd.f5.params.toList args.toList ds p := hA0
  rw [Tryd.params5] at hA hval
  obtain ⟨v0, vs0, d0, ds0, p0, q0, hargs, rfl, rfl, h0, r0⟩ := trodAll_cons hA
  obtain ⟨v1, vs1, d1, ds1, p1, q1, rfl, rfl, rfl, h1, r1⟩ := trodAll_cons r0
  obtain ⟨v2, vs2, d2, ds2, p2, q2, rfl, rfl, rfl, h2, r2⟩ := trodAll_cons r1
  obtain ⟨rfl, rfl, rfl⟩ := trodAll_nil r2
  obtain rfl : args = #[v0, v1, v2] := by cases args; simp_all
  obtain ⟨rfl, rfl⟩ := trodVars_none hV
  obtain ⟨A0, n0, c0, rfl⟩ := okWide_slice Tryd.underlying27 (hval 0 27 v0 rfl rfl)
  have k0 := h0
  have lt0 : ∀ x ∈ p0, x.block < W.heap.size := by obtain ⟨m, hm⟩ := k0; exact DataW.trod_lt m _ _ _ hm
  obtain ⟨l0, z0, hv0⟩ : ∃ l, (Kd.slice 26 k26).K W l [Value.slice A0 n0 c0] ∧ (fun v_ => (v_.length ≤ maxLen ∧ ∀ x_ ∈ v_, V26 x_)) l := by
    obtain ⟨fuel, hf⟩ := h0
    exact (opens_slice Tryd.underlying27 (by kernel_rfl) opens26) enc W _ _ _ _ _ _ hf
  obtain ⟨A_, c_, e, hc0, hr0⟩ := z0
  simp only [List.cons.injEq, Value.slice.injEq, and_true] at e
  obtain ⟨rfl, rfl, rfl⟩ := e
  obtain ⟨A1, n1, c1, rfl⟩ := okWide_slice Tryd.underlying27 (hval 1 27 v1 rfl rfl)
  have k1 := h1
  have lt1 : ∀ x ∈ p1, x.block < W.heap.size := by obtain ⟨m, hm⟩ := k1; exact DataW.trod_lt m _ _ _ hm
  obtain ⟨l1, z1, hv1⟩ : ∃ l, (Kd.slice 26 k26).K W l [Value.slice A1 n1 c1] ∧ (fun v_ => (v_.length ≤ maxLen ∧ ∀ x_ ∈ v_, V26 x_)) l := by
    obtain ⟨fuel, hf⟩ := h1
    exact (opens_slice Tryd.underlying27 (by kernel_rfl) opens26) enc W _ _ _ _ _ _ hf
  obtain ⟨A_, c_, e, hc1, hr1⟩ := z1
  simp only [List.cons.injEq, Value.slice.injEq, and_true] at e
  obtain ⟨rfl, rfl, rfl⟩ := e
  obtain ⟨a2, rfl, rfl, rfl, hv2⟩ := open_int Tryd.underlying5 (hval 2 5 v2 rfl rfl) h2
  obtain ⟨k, h⟩ := Pure.UnderDrops l0 l1 a2 hv0 hv1 hv2
  refine (epitomelaw12_UnderDrops.calls k _ _ l0 _ _ l1 a2 true ⟨rfl⟩ W hG hr0 hc0 hr1 hc1 h).mono ?_
  rintro e W' ⟨rfl, hd⟩
  have bel : Below W.heap.size W W' := hd
  exact ⟨_, rfl, _, _, _, [], _, [], hW', trodAll_mk1 (shut_bool Tryd.underlying4 _), (trodAll_cons_mk (Below.trod laidOut (by kernel_rfl) (of_decide_eq_true (by kernel_rfl)) k0 bel lt0) (trodAll_cons_mk (Below.trod laidOut (by kernel_rfl) (of_decide_eq_true (by kernel_rfl)) k1 bel lt1) (trodAll_cons_mk (shut_int Tryd.underlying5 hv2) trodAll_mk0))), rfl, bel.frame _, fun h => by cases h⟩
theorem over : Rows.underDropsRow.holds Tryd.pinned (OpenSpec.ofChange Rows.underDropsSpec) :=
  OpenClaim.holds_of_wide 5 Tryd.f5 rfl rfl rfl rfl rfl rfl rfl ⟨rfl, rfl, rfl, rfl, rfl⟩ rfl rfl rfl rfl rfl (by kernel_rfl) Tryd.func5 (by kernel_rfl)
    (of_decide_eq_true (by kernel_rfl)) (by unfold Func.isWrapper; first | (rw [if_pos (by decide +kernel)]; kernel_rfl) | (rw [if_neg (by decide +kernel)]; exact ⟨rfl, rfl⟩))
    (fun os started H enc _ => lifted os started H enc)
theorem card : Claim7.holds Tryd.pinned (.plain (OpenSpec.ofChange Rows.underDropsSpec)) Rows.underDropsCard :=
  Claim7.holds_tied_plain_at .later [] [.data, .data, .pinned] true (true, "c2251930897601772addbf6c1a442b84cebd7f45a12749bf08b797a7bafbc561") false
    over (fun _ h => by cases h) (by kernel_rfl) (fun _ h => by cases h) underDrops_row_tie rfl ⟨rfl, rfl⟩ (by kernel_rfl) rfl
    (fun f fn hf hfn => by
      obtain rfl : f = 5 := Option.some.inj ((show Tryd.prog.funcNamed "epitome/epitomelaw12.UnderDrops" = some 5 by kernel_rfl).symm.trans hf) |>.symm
      obtain rfl : fn = Tryd.f5 := (Option.some.inj (Tryd.func5.symm.trans hfn)).symm
      exact ⟨by kernel_rfl, fun j t ht => by
        rw [Tryd.params5] at ht
        match j, ht with
        | 0, ht =>
          obtain rfl : t = 27 := by simpa using ht.symm
          exact (show Tryd.prog.wantsStandIn 27 = false by kernel_rfl)
        | 1, ht =>
          obtain rfl : t = 27 := by simpa using ht.symm
          exact (show Tryd.prog.wantsStandIn 27 = false by kernel_rfl)
        | 2, ht =>
          obtain rfl : t = 5 := by simpa using ht.symm
          exact (show Tryd.prog.wantsStandIn 5 = false by kernel_rfl)
        | j + 3, ht => simp at ht⟩)
    (by kernel_rfl)
theorem proved : Rows.UnderDropsCardSaid := card
end Go.Proofs.YtabodcedlhahfaaDoor.underDrops
namespace Go.Proofs.YtabodcedlhahfaaDoor
theorem underDrops_holds : Rows.UnderDropsCardSaid := underDrops.proved
#print axioms underDrops_holds
end Go.Proofs.YtabodcedlhahfaaDoor
end
