import Derived.Test.YtkefbljogjcodaaDoorKCGapsJoinC
import Derived.Test.YtkefbljogjcodaaDoorKCGapsJoinPA
import Derived.Below
import Derived.Deep.Draws
import Derived.Deep.AppendLies
import Derived.Maps.AppendAt
import Derived.OwnWalk
import Derived.Laws.BytesArg
import Derived.Laws.MakeOwn
import Derived.Laws.OwnMore
import Derived.Deep.OwnRows
import Derived.Tactics
import Derived.Lib.ConvBytes
import Derived.Laws.Slices
import Derived.WalkKit
import Derived.KernelRfl
import Derived.RowKit3
import Derived.Deep.LoopGhost
import Derived.Deep.QuietTactic
import Derived.BigQuiet
import Derived.WideLaws
import Derived.Deep.DeepCutAuto
import Derived.Deep.CutBlock
import Derived.Deep.RegionHeld3
import Derived.Laws.Rows
import Derived.Lib.AppendStr
import Derived.ArgAppend
import Derived.Laws.IdiomCopy
import Derived.RowKit
import Derived.OrdersHeld
import Derived.Laws.BitsLemmas
import Derived.Laws.StructEq
import Derived.Test.YtkefbljogjcodaaDoorProg
import Derived.Handy
import Derived.Shelf.Unicode.DecodeSlow
import Derived.Ground.NamesProg
import Derived.Shelf.Unicode.ValidAny
import Derived.Laws.RangeString
import Derived.Laws.RangeAny
import Derived.Lib.RuneCount
import Derived.Laws.IdiomStrings
import Derived.Laws.Cover4
import Derived.ProofKit
import Derived.OpenShut
import Derived.ShutString
import Derived.ChangeOld
import Derived.SizedLaws
import Derived.Lib.ValidLaws
import Derived.Test.YtkefbljogjcodaaDoorRows
import Derived.Lib.LaidU8T
import Derived.Lib.LaidIn
import Derived.LaidLaws
import Derived.Test.YtkefbljogjcodaaDoorTie
import Derived.Test.YtkefbljogjcodaaDoorCards
import Derived.Carry
import Derived.ChangeSame
import Derived.ChangeVars
import Derived.JoinedOf
import Derived.SevenTiedAt
section
namespace Go.Proofs.YtkefbljogjcodaaDoor.F
open Go.RowKit Go.Proofs.YtkefbljogjcodaaDoorW.PrintWords Go.Proofs.YtkefbljogjcodaaDoorW.PrintLast Go.Proofs.YtkefbljogjcodaaDoorW.PrintMore
attribute [local go_sem] max2_int min2_int max_two min_two max_three min_three max_four min_four cell_setCell_isSome
set_option linter.unusedVariables false
set_option linter.unusedSimpArgs false
def epitomelaw06_GapsJoin.Pure : Prop := ∀ (l0 : List (S26)) (l1 : List (S26)) (a2_0 : Int) (a2_1 : Int), (l0.length ≤ maxLen ∧ ∀ x_ ∈ l0, V26 x_) → (l1.length ≤ maxLen ∧ ∀ x_ ∈ l1, V26 x_) → (Lit.int .u8 a2_0).wf = true → (Lit.int .u8 a2_1).wf = true → ∃ k, epitomelaw06_GapsJoin.f k l0 l1 a2_0 a2_1 = some true
end Go.Proofs.YtkefbljogjcodaaDoor.F
end
section
namespace Go.Proofs.YtkefbljogjcodaaDoor.F
open Go.RowKit Go.Proofs.YtkefbljogjcodaaDoorW.PrintWords Go.Proofs.YtkefbljogjcodaaDoorW.PrintLast Go.Proofs.YtkefbljogjcodaaDoorW.PrintMore
set_option linter.unusedVariables false
set_option linter.unusedSimpArgs false
theorem gpP_join : ∀ (a b : List U) (A : List (List Int)) (p q : List Int) (B : List (List Int)), gpP a = A ++ [p] → gpP b = q :: B → gpP (a ++ b) = A ++ (p ++ q) :: B
 | [], b, A, p, q, B, h1, h2 => by
  rw [show gpP [] = [[]] from rfl] at h1
  cases A with
  | nil =>
   rw [List.nil_append] at h1
   injection h1 with h1 _
   subst h1
   exact h2
  | cons x A =>
   rw [List.cons_append] at h1
   injection h1 with _ h1
   exact absurd h1.symm (by simp)
 | .k :: a, b, A, p, q, B, h1, h2 => by
  rw [gpP] at h1
  cases A with
  | nil =>
   rw [List.nil_append] at h1
   injection h1 with _ h1
   exact absurd h1 (gpP_ne a)
  | cons x A =>
   rw [List.cons_append] at h1
   injection h1 with e h1
   subst e
   rw [List.cons_append, gpP, gpP_join a b A p q B h1 h2, List.cons_append]
 | .d :: a, b, A, p, q, B, h1, h2 => by
  rw [gpP] at h1
  cases A with
  | nil =>
   rw [List.nil_append] at h1
   injection h1 with _ h1
   exact absurd h1 (gpP_ne a)
  | cons x A =>
   rw [List.cons_append] at h1
   injection h1 with e h1
   subst e
   rw [List.cons_append, gpP, gpP_join a b A p q B h1 h2, List.cons_append]
 | .p r :: a, b, A, p, q, B, h1, h2 => by
  rw [gpP] at h1
  cases hg : gpP a with
  | nil => exact absurd hg (gpP_ne a)
  | cons x ps =>
   rw [hg, preq] at h1
   cases A with
   | nil =>
    rw [List.nil_append] at h1
    injection h1 with e h1
    subst h1
    have ih := gpP_join a b [] x q B (by rw [hg]; rfl) h2
    rw [List.cons_append, gpP, ih, List.nil_append, preq, ← e]
    simp
   | cons y A =>
    rw [List.cons_append] at h1
    injection h1 with e h1
    have ih := gpP_join a b (x :: A) p q B (by rw [hg, h1]; rfl) h2
    rw [List.cons_append, gpP, ih, List.cons_append, preq, ← e]
    rfl
theorem gpG_join : ∀ (a b : List U), gpG (a ++ b) = gpG a ++ gpG b
 | [], _ => rfl
 | .p _ :: a, b => by rw [List.cons_append, gpG, gpG, gpG_join a b]
 | .k :: a, b => by rw [List.cons_append, gpG, gpG, gpG_join a b, List.cons_append]
 | .d :: a, b => by rw [List.cons_append, gpG, gpG, gpG_join a b, List.cons_append]
theorem exU_app (us vs : List Un) : exU (us ++ vs) = exU us ++ exU vs := by simp [exU]
theorem okJoin {a b : List Un} (ha : Ok a) (hb : Ok b) (h1 : a.length + b.length ≤ 2097152) (h2 : (a.map Un.cin).sum + (b.map Un.cin).sum ≤ 1048576) (h3 : (a.map Un.cout).sum + (b.map Un.cout).sum ≤ 1099511627776) : Ok (a ++ b) := by
 refine ⟨?_, by rw [List.length_append]; exact h1, by rw [List.map_append, List.sum_append]; exact h2, by rw [List.map_append, List.sum_append]; exact h3⟩
 intro u hu
 rcases List.mem_append.1 hu with hu | hu
 ·exact ha.ok u hu
 ·exact hb.ok u hu
theorem le_sum_map {p : List Int} : ∀ {L : List (List Int)}, p ∈ L → p.length ≤ (L.map List.length).sum
 | x :: L, h => by
  rw [List.map_cons, List.sum_cons]
  rcases List.mem_cons.1 h with rfl | h
  ·omega
  ·have := le_sum_map h; omega
theorem Pure.GapsJoin : epitomelaw06_GapsJoin.Pure := by
 intro l0 l1 x0 x1 h0 h1 h2 h3
 apply Ev.rounds
 obtain ⟨n, hn, en⟩ := rem64 x0 h2
 obtain ⟨m, hm, em⟩ := rem64 x1 h3
 obtain ⟨us, hf0, mu⟩ := fit04_is l0 h0.1 h0.2 n (by omega)
 obtain ⟨vs, hf1, mv⟩ := fit04_is l1 h1.1 h1.2 m (by omega)
 have fu := made_fit mu (by omega)
 have fv := made_fit mv (by omega)
 have cu := fu.cin
 have cv := fv.cin
 have lu := fu.len
 have lv := fv.len
 have ou := fu.cout
 have ov := fv.cout
 have ok := okJoin fu.ok fv.ok (by omega) (by omega) (by omega)
 have gu := gapsOf_is fu.ok (by omega)
 have gv := gapsOf_is fv.ok (by omega)
 have ga := gapsOf_is ok (by rw [List.map_append, List.sum_append]; omega)
 have su := gpP_sum (exU us)
 have sv := gpP_sum (exU vs)
 rw [coutU_ex] at su sv
 have lg := gpP_length (exU us)
 have lgu := gpG_length (exU us)
 have lgv := gpG_length (exU vs)
 have lgw := gpP_length (exU vs)
 rw [fu.cinU] at lg lgu
 rw [fv.cinU] at lgv lgw
 obtain ⟨A, p, hA⟩ : ∃ A p, gpP (exU us) = A ++ [p] := ⟨_, _, (List.dropLast_concat_getLast (gpP_ne (exU us))).symm⟩
 obtain ⟨q, B, hB⟩ : ∃ q B, gpP (exU vs) = q :: B := by
  cases h : gpP (exU vs) with
  | nil => exact absurd h (gpP_ne _)
  | cons q B => exact ⟨q, B, rfl⟩
 rw [exU_app, gpP_join (exU us) (exU vs) A p q B hA hB, gpG_join, List.map_append (f := Un.sp)] at ga
 have sp := le_sum_map (p := p) (L := gpP (exU us)) (by rw [hA]; simp)
 have sq := le_sum_map (p := q) (L := gpP (exU vs)) (by rw [hB]; simp)
 have zp_ := (encT_size p).2
 have zq_ := (encT_size q).2
 rw [hA] at gu lg
 rw [hB] at gv lgw
 rw [List.length_append, List.length_singleton] at lg
 rw [List.length_cons] at lgw
 generalize gpG (exU us) = G at *
 generalize gpG (exU vs) = K at *
 have oi := opIn_is fu.ok
 have oj := opIn_is fv.ok
 rw [cu] at oi
 rw [cv] at oj
 have hl : (((A ++ [p]).map encT).length : Int) = (n : Int) + 1 := by simp; omega
 have hlq : (((q :: B).map encT).length : Int) = (m : Int) + 1 := by simp; omega
 have hw : wrap64 ((n : Int) + 1 - 1) = (n : Int) := by rw [w64 (by omega) (by omega)]; omega
 have ht : ((A ++ [p]).map encT).take n = A.map encT := by
  rw [List.map_append, List.take_append_of_le_length (by rw [List.length_map]; omega), List.take_of_length_le (by rw [List.length_map]; omega)]
 have hp : rdOf ByteArray.empty ((A ++ [p]).map encT) (n : Int) = encT p := by
  unfold rdOf
  rw [Int.toNat_natCast, List.getD_eq_getElem?_getD, List.map_append, List.getElem?_append_right (by rw [List.length_map]; omega), List.length_map, show n - A.length = 0 by omega]
  rfl
 have hq : rdOf ByteArray.empty ((q :: B).map encT) 0 = encT q := rfl
 have hd : ((q :: B).map encT).drop 1 = B.map encT := rfl
 have hall : (A ++ (p ++ q) :: B).map encT = (([] ++ A.map encT) ++ [encT p ++ encT q]) ++ B.map encT := by
  rw [← encT_append]
  simp
 have sm := same6_is ((A ++ (p ++ q) :: B).map encT) ((([] ++ A.map encT) ++ [encT p ++ encT q]) ++ B.map encT) (G ++ K) (([] ++ G) ++ K) (by simp; omega) (by simp; omega)
 rw [decide_eq_true ⟨hall, by simp⟩] at sm
 unfold epitomelaw06_GapsJoin.f
 rw [en, em]
 refine Ev.bind shown06 (Ev.bind hf0 (Ev.bind hf1 (Ev.bind gu (Ev.bind gv (ev_some rfl (ev_if_pos (by rw [List.length_map]; simp; omega) (ev_some rfl (ev_if_pos (by simp; omega) ?_))))))))
 rw [List.nil_append]
 refine Ev.bind ga ?_
 dsimp only
 refine (ev_if_pos rfl (ev_if_pos rfl (ev_if_pos rfl (ev_if_pos rfl (ev_if_neg (by omega) ?_)))))
 rw [show (((((q :: B).map encT).length : Int)) == 0) = false by rw [beq_eq_false_iff_ne]; omega]
 refine Ev.step (fun k => by rw [epitomelaw06_GapsJoin.j0, if_neg (by decide)]) ?_
 rw [hl, hw, Int.toNat_natCast, ht, hp, hq, hd]
 refine ev_some rfl (ev_if_pos (by omega) (ev_if_pos (by omega) (ev_some rfl (ev_if_pos (by simp; omega) (ev_some rfl (ev_some rfl (ev_if_pos (by simp; omega) (ev_some rfl (ev_if_pos (by simp; omega) ?_)))))))))
 refine ev_if_pos (by omega) (ev_if_pos (by omega) (ev_if_pos (by omega) (ev_if_pos (by simp; omega) (ev_some rfl (ev_if_pos (by omega) (ev_some rfl (ev_if_pos (by simp; omega) ?_)))))))
 refine Ev.bind sm (ev_if_pos rfl (Ev.bind oi (Ev.bind oj ?_)))
 rw [show (((G ++ K).length : Int) == wrap64 ((n : Int) + (m : Int))) = true by rw [w64 (by omega) (by omega), List.length_append, beq_iff_eq]; omega]
 exact Ev.now true
end Go.Proofs.YtkefbljogjcodaaDoor.F
end
section
namespace Go.Proofs.YtkefbljogjcodaaDoor.gapsJoin
open Go.ChangeShapes Go.WideShapes Go.ChangeAt Go.RowKit Go.Proofs.YtkefbljogjcodaaDoor.F
open Go.Proofs.YtkefbljogjcodaaDoorW.PrintWords
open Go.ChangeMaps (open_string shut_string)
set_option linter.unusedVariables false
theorem own : ownKnob Tryd.prog.godebug = none := by kernel_rfl
theorem laidOut : laidOutB Tryd.prog = true := by kernel_rfl
theorem laid_met (os : Os) (args : Array Value) : laidMetH Tryd.prog Rows.gapsJoinRow.laid ((laidWorld os).forCall (fun _ _ => 0) ⟨#[], args, []⟩).memory :=
  (LaidIn.of_run (l := Rows.gapsJoinRow.laid) [2, 0, 1] 8 (by kernel_rfl) (by kernel_rfl) (by kernel_rfl) (by kernel_rfl)).met
set_option maxRecDepth 100000 in
theorem lifted (os : Os) (started : os.Started) (H : Type) (enc : TypeId × Value → H) :
    ReturnsInHanded {} Tryd.checked os 12 .any (fun w args => (Rows.gapsJoinSpec.pre enc Tryd.prog Tryd.f12 [] false w args ∧ laidMetH Tryd.prog Rows.gapsJoinRow.laid w) ∧ sizedMet enc Tryd.prog Tryd.f12 (OpenSpec.ofChange Rows.gapsJoinSpec) false w args) (Rows.gapsJoinSpec.post enc Tryd.prog Tryd.f12 false true false false) := by
  refine returnsInHanded_of_change_and (C := Tryd.checked) (X := (fun w _ => laidMetH Tryd.prog Rows.gapsJoinRow.laid w)) (fun _ _ _ hh h => h.of_heap hh) own started (by kernel_rfl) Tryd.func12
    (ChangeSpec.witness_at (enc := enc) (C := Tryd.checked) (os := os) (X := (fun w _ => laidMetH Tryd.prog Rows.gapsJoinRow.laid w)) false (laidWorld os) #[.slice none 0 0, .slice none 0 0, .agg #[.int .u8 0, .int .u8 0]] 8 rfl (by kernel_rfl) (by kernel_rfl) (by kernel_rfl) (by kernel_rfl) (by kernel_rfl) (laid_met os _)) ?_
  intro W base args ds gs before hval0 hW _ _ hL _
  have hG : Glob W := glob_of_reads (Lib.laidMet.reads hL (.tail _ (.tail _ (.head _)))) (Lib.laidMet.reads hL (.head _)) (Lib.laidMet.reads hL (.tail _ (.head _)))
  have hval : ∀ (j : Nat) t v, Tryd.f12.params[j]? = some t → args[j]? = some v → Value.okWide Tryd.prog W .any base t v := hval0
  have hW' := hW
  obtain ⟨p, q, hA0, hV, rfl, hfz, hnd⟩ := hW
  have hA : DataW.TrodAll enc Tryd.prog W 0 (fun _ => true) true Tryd.f12.params.toList args.toList ds p := hA0
  rw [Tryd.params12] at hA hval
  obtain ⟨v0, vs0, d0, ds0, p0, q0, hargs, rfl, rfl, h0, r0⟩ := trodAll_cons hA
  obtain ⟨v1, vs1, d1, ds1, p1, q1, rfl, rfl, rfl, h1, r1⟩ := trodAll_cons r0
  obtain ⟨v2, vs2, d2, ds2, p2, q2, rfl, rfl, rfl, h2, r2⟩ := trodAll_cons r1
  obtain ⟨rfl, rfl, rfl⟩ := trodAll_nil r2
  obtain rfl : args = #[v0, v1, v2] := by cases args; simp_all
  obtain ⟨rfl, rfl⟩ := trodVars_none hV
  obtain ⟨A0, n0, c0, rfl⟩ := okWide_slice Tryd.underlying27 (hval 0 27 v0 rfl rfl)
  have k0 := h0
  have lt0 : ∀ x ∈ p0, x.block < W.heap.size := by obtain ⟨m, hm⟩ := k0; exact DataW.trod_lt m _ _ _ hm
  obtain ⟨l0, z0, hv0⟩ : ∃ l, (Kd.slice 26 k26).K W l [Value.slice A0 n0 c0] ∧ (fun v_ => (v_.length ≤ maxLen ∧ ∀ x_ ∈ v_, V26 x_)) l := by
    obtain ⟨fuel, hf⟩ := h0
    exact (opens_slice Tryd.underlying27 (by kernel_rfl) opens26) enc W _ _ _ _ _ _ hf
  obtain ⟨A_, c_, e, hc0, hr0⟩ := z0
  simp only [List.cons.injEq, Value.slice.injEq, and_true] at e
  obtain ⟨rfl, rfl, rfl⟩ := e
  obtain ⟨A1, n1, c1, rfl⟩ := okWide_slice Tryd.underlying27 (hval 1 27 v1 rfl rfl)
  have k1 := h1
  have lt1 : ∀ x ∈ p1, x.block < W.heap.size := by obtain ⟨m, hm⟩ := k1; exact DataW.trod_lt m _ _ _ hm
  obtain ⟨l1, z1, hv1⟩ : ∃ l, (Kd.slice 26 k26).K W l [Value.slice A1 n1 c1] ∧ (fun v_ => (v_.length ≤ maxLen ∧ ∀ x_ ∈ v_, V26 x_)) l := by
    obtain ⟨fuel, hf⟩ := h1
    exact (opens_slice Tryd.underlying27 (by kernel_rfl) opens26) enc W _ _ _ _ _ _ hf
  obtain ⟨A_, c_, e, hc1, hr1⟩ := z1
  simp only [List.cons.injEq, Value.slice.injEq, and_true] at e
  obtain ⟨rfl, rfl, rfl⟩ := e
  obtain ⟨cs2, rfl⟩ := agg_array Tryd.underlying22 (hval 2 22 v2 rfl rfl)
  have k2 := h2
  have lt2 : ∀ x ∈ p2, x.block < W.heap.size := by obtain ⟨m, hm⟩ := k2; exact DataW.trod_lt m _ _ _ hm
  obtain ⟨x2, z2, hv2⟩ : ∃ x, k22.K W x cs2.toList ∧ V22 x := by
    obtain ⟨fuel, hf⟩ := h2
    exact opens22 enc W _ _ _ _ _ _ hf
  obtain ⟨c2_0, w2_0, e2_0, h2_0, h2_1⟩ := z2
  have ec2_0 := h2_0
  have ec2_1 := h2_1
  obtain rfl : cs2 = #[.int .u8 x2.f0, .int .u8 x2.f1] := by
    apply arr_of (l := [.int .u8 x2.f0, .int .u8 x2.f1])
    rw [e2_0, ec2_0, ec2_1]
    rfl
  obtain ⟨b2_0, b2_1⟩ := x2
  obtain ⟨k, h⟩ := Pure.GapsJoin l0 l1 b2_0 b2_1 hv0 hv1 (by exact hv2.1) (by exact hv2.2)
  refine (epitomelaw06_GapsJoin.calls k _ _ l0 _ _ l1 b2_0 b2_1 true ⟨rfl⟩ W hG hr0 hc0 hr1 hc1 h).mono ?_
  rintro e W' ⟨rfl, hd⟩
  have bel : Below W.heap.size W W' := hd
  exact ⟨_, rfl, _, _, _, [], _, [], hW', trodAll_mk1 (shut_bool Tryd.underlying4 _), (trodAll_cons_mk (Below.trod laidOut (by kernel_rfl) (of_decide_eq_true (by kernel_rfl)) k0 bel lt0) (trodAll_cons_mk (Below.trod laidOut (by kernel_rfl) (of_decide_eq_true (by kernel_rfl)) k1 bel lt1) (trodAll_cons_mk (Below.trod laidOut (by kernel_rfl) (of_decide_eq_true (by kernel_rfl)) k2 bel lt2) trodAll_mk0))), rfl, bel.frame _, fun h => by cases h⟩
theorem over : Rows.gapsJoinRow.holds Tryd.pinned (OpenSpec.ofChange Rows.gapsJoinSpec) :=
  OpenClaim.holds_of_wide 12 Tryd.f12 rfl rfl rfl rfl rfl rfl rfl ⟨rfl, rfl, rfl, rfl, rfl⟩ rfl rfl rfl rfl rfl (by kernel_rfl) Tryd.func12 (by kernel_rfl)
    (of_decide_eq_true (by kernel_rfl)) (by unfold Func.isWrapper; first | (rw [if_pos (by decide +kernel)]; kernel_rfl) | (rw [if_neg (by decide +kernel)]; exact ⟨rfl, rfl⟩))
    (fun os started H enc _ => lifted os started H enc)
theorem card : Claim7.holds Tryd.pinned (.plain (OpenSpec.ofChange Rows.gapsJoinSpec)) Rows.gapsJoinCard :=
  Claim7.holds_tied_plain_at .later [] [.data, .data, .pinned] true (true, "cb220046ee5715416f27fb58bb862ce5d799745ed337233484527cd9cd290028") false
    over (fun _ h => by cases h) (by kernel_rfl) (fun _ h => by cases h) gapsJoin_row_tie rfl ⟨rfl, rfl⟩ (by kernel_rfl) rfl
    (fun f fn hf hfn => by
      obtain rfl : f = 12 := Option.some.inj ((show Tryd.prog.funcNamed "epitome/epitomelaw06.GapsJoin" = some 12 by kernel_rfl).symm.trans hf) |>.symm
      obtain rfl : fn = Tryd.f12 := (Option.some.inj (Tryd.func12.symm.trans hfn)).symm
      exact ⟨by kernel_rfl, fun j t ht => by
        rw [Tryd.params12] at ht
        match j, ht with
        | 0, ht =>
          obtain rfl : t = 27 := by simpa using ht.symm
          exact (show Tryd.prog.wantsStandIn 27 = false by kernel_rfl)
        | 1, ht =>
          obtain rfl : t = 27 := by simpa using ht.symm
          exact (show Tryd.prog.wantsStandIn 27 = false by kernel_rfl)
        | 2, ht =>
          obtain rfl : t = 22 := by simpa using ht.symm
          exact (show Tryd.prog.wantsStandIn 22 = false by kernel_rfl)
        | j + 3, ht => simp at ht⟩)
    (by kernel_rfl)
theorem proved : Rows.GapsJoinCardSaid := card
end Go.Proofs.YtkefbljogjcodaaDoor.gapsJoin
namespace Go.Proofs.YtkefbljogjcodaaDoor
theorem gapsJoin_holds : Rows.GapsJoinCardSaid := gapsJoin.proved
#print axioms gapsJoin_holds
end Go.Proofs.YtkefbljogjcodaaDoor
end
