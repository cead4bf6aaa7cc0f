import Derived.Test.YtnfaahacakliiaaDoorKAPE
import Derived.Test.YtnfaahacakliiaaDoorKAPPA
import Derived.Below
import Derived.Deep.Draws
import Derived.Deep.AppendLies
import Derived.Maps.AppendAt
import Derived.OwnWalk
import Derived.Laws.BytesArg
import Derived.Laws.MakeOwn
import Derived.Laws.OwnMore
import Derived.Deep.OwnRows
import Derived.Tactics
import Derived.Lib.ConvBytes
import Derived.Laws.Slices
import Derived.WalkKit
import Derived.KernelRfl
import Derived.RowKit3
import Derived.Deep.LoopGhost
import Derived.Deep.QuietTactic
import Derived.BigQuiet
import Derived.WideLaws
import Derived.Deep.DeepCutAuto
import Derived.Deep.CutBlock
import Derived.Deep.RegionHeld3
import Derived.Laws.Rows
import Derived.Lib.AppendStr
import Derived.ArgAppend
import Derived.Laws.IdiomCopy
import Derived.RowKit
import Derived.OrdersHeld
import Derived.Laws.BitsLemmas
import Derived.Laws.StructEq
import Derived.Test.YtnfaahacakliiaaDoorProg
import Derived.Handy
import Derived.Shelf.Unicode.DecodeSlow
import Derived.Ground.NamesProg
import Derived.Shelf.Unicode.ValidAny
import Derived.Laws.RangeString
import Derived.Laws.RangeAny
import Derived.Lib.RuneCount
import Derived.Laws.IdiomStrings
import Derived.Laws.Cover4
import Derived.Great.BuildSlice
import Derived.Defers
import Derived.ProofKit
import Derived.OpenShut
import Derived.ShutString
import Derived.ChangeOld
import Derived.SizedLaws
import Derived.Lib.ValidLaws
import Derived.Test.YtnfaahacakliiaaDoorRows
import Derived.Lib.LaidU8T
import Derived.Lib.LaidIn
import Derived.LaidLaws
import Derived.Test.YtnfaahacakliiaaDoorTie
import Derived.Test.YtnfaahacakliiaaDoorCards
import Derived.Carry
import Derived.ChangeSame
import Derived.ChangeVars
import Derived.JoinedOf
import Derived.SevenTiedAt
section
namespace Go.Proofs.YtnfaahacakliiaaDoor.F
open Go.RowKit Go.Proofs.YtnfaahacakliiaaDoorW.PrintWords Go.Proofs.YtnfaahacakliiaaDoorW.PrintLast Go.Proofs.YtnfaahacakliiaaDoorW.PrintMore
attribute [local go_sem] max2_int min2_int max_two min_two max_three min_three max_four min_four cell_setCell_isSome
set_option linter.unusedVariables false
set_option linter.unusedSimpArgs false
def epitomelaw11_OverApart.Pure : Prop := ∀ (l0 : List (S32)) (l1 : List (S32)) (a2_0 : Int) (a2_1 : Int), (l0.length ≤ maxLen ∧ ∀ x_ ∈ l0, V32 x_) → (l1.length ≤ maxLen ∧ ∀ x_ ∈ l1, V32 x_) → (Lit.int .u8 a2_0).wf = true → (Lit.int .u8 a2_1).wf = true → ∃ k, epitomelaw11_OverApart.f k l0 l1 a2_0 a2_1 = some true
end Go.Proofs.YtnfaahacakliiaaDoor.F
end
section
namespace Go.Proofs.YtnfaahacakliiaaDoor.F
open Go.RowKit Go.Proofs.YtnfaahacakliiaaDoorW.PrintWords Go.Proofs.YtnfaahacakliiaaDoorW.PrintLast Go.Proofs.YtnfaahacakliiaaDoorW.PrintMore
set_option linter.unusedVariables false
set_option linter.unusedSimpArgs false
theorem ok_snoc {us : List Un} {n : Nat} (h : FitB us n) (hn : n ≤ 63) (m : Nat) (hm : m ≤ 1000) : Ok (us ++ [.keep m]) ∧ Ok (.keep m :: us) := by
  have h1 := h.cin
  have h2 := h.cout
  have h3 := h.len
  constructor
  · refine ⟨fun u hu => ?_, by simp; omega, by simp [Un.cin]; omega, by simp [Un.cout]; omega⟩
    rcases List.mem_append.1 hu with hu | hu
    · exact h.ok.ok u hu
    · simp at hu; subst hu; trivial
  · refine ⟨fun u hu => ?_, by simp; omega, by simp [Un.cin]; omega, by simp [Un.cout]; omega⟩
    rcases List.mem_cons.1 hu with rfl | hu
    · trivial
    · exact h.ok.ok u hu
theorem ex_snoc (us : List Un) (m : Nat) : exU (us ++ [.keep m]) = exU us ++ List.replicate m .k := by rw [exU_append]; simp [exU, Un.ex]
theorem ex_keepc (us : List Un) (m : Nat) : exU (.keep m :: us) = List.replicate m .k ++ exU us := by rw [exU_cons]; rfl
theorem Pure.OverApart : epitomelaw11_OverApart.Pure := by
  intro l0 l1 a b h0 h1 h2 h3
  apply Ev.rounds
  obtain ⟨i, hi, ei⟩ := rem64 a h2
  obtain ⟨q, hq, eq⟩ := rem64 b h3
  obtain ⟨us, hf0, f0⟩ := fitB l0 h0.1 h0.2 i (by omega)
  obtain ⟨vs, hf1, f1⟩ := fitB l1 h1.1 h1.2 q (by omega)
  have c0 := f0.cout
  have c1 := f1.cout
  have i0 := f0.cinU
  have i1 := f1.cinU
  have o0 := f0.coutU
  have o1 := f1.coutU
  have n0 := f0.cin
  have n1 := f1.cin
  have l9 := f0.len
  have l8 := f1.len
  have one := (ok_snoc f0 hi (q + 1) (by omega)).1
  have two := (ok_snoc f1 hq (i + 1) (by omega)).2
  have eo : ((us ++ [Un.keep (q + 1)]).map Un.cout).sum = (us.map Un.cout).sum + (q + 1) := by simp [Un.cout]
  have et : ((Un.keep (i + 1) :: vs).map Un.cout).sum = (i + 1) + (vs.map Un.cout).sum := by simp [Un.cout]
  have eo2 : ((us ++ [Un.keep (q + 1)]).map Un.cin).sum = (us.map Un.cin).sum + (q + 1) := by simp [Un.cin]
  have et2 : ((Un.keep (i + 1) :: vs).map Un.cin).sum = (i + 1) + (vs.map Un.cin).sum := by simp [Un.cin]
  have e1 := over_is one two (by omega) (by omega) (by omega)
  have e2 := over_is two one (by omega) (by omega) (by omega)
  obtain ⟨ou, hou⟩ : ∃ ou, (us.map Un.cout).sum = ou := ⟨_, rfl⟩
  obtain ⟨ov, hov⟩ : ∃ ov, (vs.map Un.cout).sum = ov := ⟨_, rfl⟩
  have x1 : overU (exU us ++ List.replicate (q + 1) .k) (List.replicate (i + 1) .k ++ exU vs) = exU (us ++ [Un.keep (ov + 1)]) := by
    rw [ex_snoc, ← i0, ← i1, over_two, o1, hov]
  have x2 : overU (List.replicate (i + 1) .k ++ exU vs) (exU us ++ List.replicate (q + 1) .k) = exU (Un.keep (ou + 1) :: vs) := by
    rw [ex_keepc, ← i0, ← i1, over_two', o0, hou]
  rw [ex_snoc, ex_keepc, x1] at e1
  rw [ex_snoc, ex_keepc, x2] at e2
  have w1 := (ok_snoc f0 hi (ov + 1) (by omega)).1
  have w2 := (ok_snoc f1 hq (ou + 1) (by omega)).2
  have m1 := canon_less (us ++ [Un.keep (ov + 1)])
  have m2 := canon_less (Un.keep (ou + 1) :: vs)
  have k1 : (us ++ [Un.keep (ov + 1)]).length = us.length + 1 := by simp
  have k2 : (Un.keep (ou + 1) :: vs).length = vs.length + 1 := by simp
  have sm1 := same_is ((canon (exU (us ++ [Un.keep (ov + 1)]))).map Un.sp) ((canon (exU (us ++ [Un.keep (ov + 1)]))).map Un.sp) (by rw [List.length_map]; omega)
  have sm2 := same_is ((canon (exU (Un.keep (ou + 1) :: vs))).map Un.sp) ((canon (exU (Un.keep (ou + 1) :: vs))).map Un.sp) (by rw [List.length_map]; omega)
  rw [decide_eq_true rfl] at sm1 sm2
  have sp1 : ∀ m : Nat, m ≤ 1000 → (⟨1, wrap64 ((m : Int) + 1), (⟨#[]⟩ : ByteArray)⟩ : Sp) = (Un.keep (m + 1)).sp := fun m hm => by rw [w64_succ m (by omega)]; rfl
  have ap1 : ∀ (m : Nat), us.map Un.sp ++ [(Un.keep m).sp] = (us ++ [Un.keep m]).map Un.sp := fun m => by simp
  have ap2 : ∀ (m : Nat), [(Un.keep m).sp] ++ vs.map Un.sp = (Un.keep m :: vs).map Un.sp := fun m => by simp
  unfold epitomelaw11_OverApart.f
  rw [ei, eq]
  refine Ev.bind shown11 (Ev.bind hf0 (Ev.bind hf1 (ev_some rfl (ev_if_pos (by simp; omega) (ev_some rfl (ev_some rfl (ev_if_pos (by simp; omega) (ev_some rfl (ev_some rfl (ev_if_pos (by simp; omega) (ev_some rfl ?_)))))))))))
  rw [List.nil_append, sp1 q (by omega), sp1 i (by omega), ap1, ap2]
  refine Ev.bind e1 (Ev.bind e2 ?_)
  have g1 := gives_count f1.ok (F := fun k c j => epitomelaw11_OverApart.l0 k true (us.map Un.sp) (vs.map Un.sp) ((canon (exU (us ++ [Un.keep (ov + 1)]))).map Un.sp) 0 ((canon (exU (Un.keep (ou + 1) :: vs))).map Un.sp) 0 c j) (E := fun k c => epitomelaw11_OverApart.l1 k true (us.map Un.sp) (vs.map Un.sp) ((canon (exU (us ++ [Un.keep (ov + 1)]))).map Un.sp) 0 ((canon (exU (Un.keep (ou + 1) :: vs))).map Un.sp) 0 c 0 0) (res := true) (fun k c j => by rw [epitomelaw11_OverApart.l0])
  refine g1 ?_ vs [] rfl
  clear g1
  rw [hov]
  have g2 := gives_count f0.ok (F := fun k c j => epitomelaw11_OverApart.l1 k true (us.map Un.sp) (vs.map Un.sp) ((canon (exU (us ++ [Un.keep (ov + 1)]))).map Un.sp) 0 ((canon (exU (Un.keep (ou + 1) :: vs))).map Un.sp) 0 (ov : Int) c j)
    (E := fun k c => (normal_Of.f k (us.map Un.sp ++ [(⟨1, wrap64 ((ov : Int) + 1), (⟨#[]⟩ : ByteArray)⟩ : Sp)])).bind fun t167 => (epitomeref04_Same.f k ((canon (exU (us ++ [Un.keep (ov + 1)]))).map Un.sp) t167).bind fun t170 => if t170 = true then ((normal_Of.f k ([(⟨1, wrap64 (c + 1), (⟨#[]⟩ : ByteArray)⟩ : Sp)] ++ vs.map Un.sp)).bind fun t171 => (epitomeref04_Same.f k ((canon (exU (Un.keep (ou + 1) :: vs))).map Un.sp) t171).bind fun t174 => some t174) else some false) (res := true) (fun k c j => by
      rw [epitomelaw11_OverApart.l1]
      simp only [Option.bind_some, List.nil_append, if_true]
      rw [if_pos (show ([] : List Sp).length + (us.map Un.sp).length < 4398046511104 by simp; omega)]
      try simp only [Option.bind_some]
      rw [if_pos (show (us.map Un.sp).length + [(⟨1, wrap64 ((ov : Int) + 1), (⟨#[]⟩ : ByteArray)⟩ : Sp)].length < 4398046511104 by simp; omega)]
      try simp only [Option.bind_some]
      rw [if_pos (show [(⟨1, wrap64 (c + 1), (⟨#[]⟩ : ByteArray)⟩ : Sp)].length + (vs.map Un.sp).length < 4398046511104 by simp; omega)])
  refine g2 ?_ us [] rfl
  clear g2
  rw [hou]
  try simp only
  rw [sp1 ov (by omega), sp1 ou (by omega), ap1, ap2]
  exact Ev.bind (normalOk_is w1) (Ev.bind sm1 (ev_if_pos rfl (Ev.bind (normalOk_is w2) (Ev.bind sm2 (Ev.now true)))))
end Go.Proofs.YtnfaahacakliiaaDoor.F
end
section
namespace Go.Proofs.YtnfaahacakliiaaDoor.overApart
open Go.ChangeShapes Go.WideShapes Go.ChangeAt Go.RowKit Go.Proofs.YtnfaahacakliiaaDoor.F
open Go.Proofs.YtnfaahacakliiaaDoorW.PrintWords
open Go.ChangeMaps (open_string shut_string)
set_option linter.unusedVariables false
theorem own : ownKnob Tryd.prog.godebug = none := by kernel_rfl
theorem laidOut : laidOutB Tryd.prog = true := by kernel_rfl
theorem laid_met (os : Os) (args : Array Value) : laidMetH Tryd.prog Rows.overApartRow.laid ((laidWorld os).forCall (fun _ _ => 0) ⟨#[], args, []⟩).memory :=
  (LaidIn.of_run (l := Rows.overApartRow.laid) [2, 0, 1] 8 (by kernel_rfl) (by kernel_rfl) (by kernel_rfl) (by kernel_rfl)).met
set_option maxRecDepth 100000 in
theorem lifted (os : Os) (started : os.Started) (H : Type) (enc : TypeId × Value → H) :
    ReturnsInHanded {} Tryd.checked os 5 .any (fun w args => (Rows.overApartSpec.pre enc Tryd.prog Tryd.f5 [] false w args ∧ laidMetH Tryd.prog Rows.overApartRow.laid w) ∧ sizedMet enc Tryd.prog Tryd.f5 (OpenSpec.ofChange Rows.overApartSpec) false w args) (Rows.overApartSpec.post enc Tryd.prog Tryd.f5 false true false false) := by
  refine returnsInHanded_of_change_and (C := Tryd.checked) (X := (fun w _ => laidMetH Tryd.prog Rows.overApartRow.laid w)) (fun _ _ _ hh h => h.of_heap hh) own started (by kernel_rfl) Tryd.func5
    (ChangeSpec.witness_at (enc := enc) (C := Tryd.checked) (os := os) (X := (fun w _ => laidMetH Tryd.prog Rows.overApartRow.laid w)) false (laidWorld os) #[.slice none 0 0, .slice none 0 0, .agg #[.int .u8 0, .int .u8 0]] 8 rfl (by kernel_rfl) (by kernel_rfl) (by kernel_rfl) (by kernel_rfl) (by kernel_rfl) (laid_met os _)) ?_
  intro W base args ds gs before hval0 hW _ _ hL _
  have hG : Glob W := glob_of_reads (Lib.laidMet.reads hL (.tail _ (.tail _ (.head _)))) (Lib.laidMet.reads hL (.head _)) (Lib.laidMet.reads hL (.tail _ (.head _)))
  have hval : ∀ (j : Nat) t v, Tryd.f5.params[j]? = some t → args[j]? = some v → Value.okWide Tryd.prog W .any base t v := hval0
  have hW' := hW
  obtain ⟨p, q, hA0, hV, rfl, hfz, hnd⟩ := hW
  have hA : DataW.TrodAll enc Tryd.prog W 0 (fun _ => true) true Tryd.f5.params.toList args.toList ds p := hA0
  rw [Tryd.params5] at hA hval
  obtain ⟨v0, vs0, d0, ds0, p0, q0, hargs, rfl, rfl, h0, r0⟩ := trodAll_cons hA
  obtain ⟨v1, vs1, d1, ds1, p1, q1, rfl, rfl, rfl, h1, r1⟩ := trodAll_cons r0
  obtain ⟨v2, vs2, d2, ds2, p2, q2, rfl, rfl, rfl, h2, r2⟩ := trodAll_cons r1
  obtain ⟨rfl, rfl, rfl⟩ := trodAll_nil r2
  obtain rfl : args = #[v0, v1, v2] := by cases args; simp_all
  obtain ⟨rfl, rfl⟩ := trodVars_none hV
  obtain ⟨A0, n0, c0, rfl⟩ := okWide_slice Tryd.underlying22 (hval 0 22 v0 rfl rfl)
  have k0 := h0
  have lt0 : ∀ x ∈ p0, x.block < W.heap.size := by obtain ⟨m, hm⟩ := k0; exact DataW.trod_lt m _ _ _ hm
  obtain ⟨l0, z0, hv0⟩ : ∃ l, (Kd.slice 32 k32).K W l [Value.slice A0 n0 c0] ∧ (fun v_ => (v_.length ≤ maxLen ∧ ∀ x_ ∈ v_, V32 x_)) l := by
    obtain ⟨fuel, hf⟩ := h0
    exact (opens_slice Tryd.underlying22 (by kernel_rfl) opens32) enc W _ _ _ _ _ _ hf
  obtain ⟨A_, c_, e, hc0, hr0⟩ := z0
  simp only [List.cons.injEq, Value.slice.injEq, and_true] at e
  obtain ⟨rfl, rfl, rfl⟩ := e
  obtain ⟨A1, n1, c1, rfl⟩ := okWide_slice Tryd.underlying22 (hval 1 22 v1 rfl rfl)
  have k1 := h1
  have lt1 : ∀ x ∈ p1, x.block < W.heap.size := by obtain ⟨m, hm⟩ := k1; exact DataW.trod_lt m _ _ _ hm
  obtain ⟨l1, z1, hv1⟩ : ∃ l, (Kd.slice 32 k32).K W l [Value.slice A1 n1 c1] ∧ (fun v_ => (v_.length ≤ maxLen ∧ ∀ x_ ∈ v_, V32 x_)) l := by
    obtain ⟨fuel, hf⟩ := h1
    exact (opens_slice Tryd.underlying22 (by kernel_rfl) opens32) enc W _ _ _ _ _ _ hf
  obtain ⟨A_, c_, e, hc1, hr1⟩ := z1
  simp only [List.cons.injEq, Value.slice.injEq, and_true] at e
  obtain ⟨rfl, rfl, rfl⟩ := e
  obtain ⟨cs2, rfl⟩ := agg_array Tryd.underlying35 (hval 2 35 v2 rfl rfl)
  have k2 := h2
  have lt2 : ∀ x ∈ p2, x.block < W.heap.size := by obtain ⟨m, hm⟩ := k2; exact DataW.trod_lt m _ _ _ hm
  obtain ⟨x2, z2, hv2⟩ : ∃ x, k35.K W x cs2.toList ∧ V35 x := by
    obtain ⟨fuel, hf⟩ := h2
    exact opens35 enc W _ _ _ _ _ _ hf
  obtain ⟨c2_0, w2_0, e2_0, h2_0, h2_1⟩ := z2
  have ec2_0 := h2_0
  have ec2_1 := h2_1
  obtain rfl : cs2 = #[.int .u8 x2.f0, .int .u8 x2.f1] := by
    apply arr_of (l := [.int .u8 x2.f0, .int .u8 x2.f1])
    rw [e2_0, ec2_0, ec2_1]
    rfl
  obtain ⟨b2_0, b2_1⟩ := x2
  obtain ⟨k, h⟩ := Pure.OverApart l0 l1 b2_0 b2_1 hv0 hv1 (by exact hv2.1) (by exact hv2.2)
  refine (epitomelaw11_OverApart.calls k _ _ l0 _ _ l1 b2_0 b2_1 true ⟨rfl⟩ W hG hr0 hc0 hr1 hc1 h).mono ?_
  rintro e W' ⟨rfl, hd⟩
  have bel : Below W.heap.size W W' := hd
  exact ⟨_, rfl, _, _, _, [], _, [], hW', trodAll_mk1 (shut_bool Tryd.underlying4 _), (trodAll_cons_mk (Below.trod laidOut (by kernel_rfl) (of_decide_eq_true (by kernel_rfl)) k0 bel lt0) (trodAll_cons_mk (Below.trod laidOut (by kernel_rfl) (of_decide_eq_true (by kernel_rfl)) k1 bel lt1) (trodAll_cons_mk (Below.trod laidOut (by kernel_rfl) (of_decide_eq_true (by kernel_rfl)) k2 bel lt2) trodAll_mk0))), rfl, bel.frame _, fun h => by cases h⟩
theorem over : Rows.overApartRow.holds Tryd.pinned (OpenSpec.ofChange Rows.overApartSpec) :=
  OpenClaim.holds_of_wide 5 Tryd.f5 rfl rfl rfl rfl rfl rfl rfl ⟨rfl, rfl, rfl, rfl, rfl⟩ rfl rfl rfl rfl rfl (by kernel_rfl) Tryd.func5 (by kernel_rfl)
    (of_decide_eq_true (by kernel_rfl)) (by unfold Func.isWrapper; first | (rw [if_pos (by decide +kernel)]; kernel_rfl) | (rw [if_neg (by decide +kernel)]; exact ⟨rfl, rfl⟩))
    (fun os started H enc _ => lifted os started H enc)
theorem card : Claim7.holds Tryd.pinned (.plain (OpenSpec.ofChange Rows.overApartSpec)) Rows.overApartCard :=
  Claim7.holds_tied_plain_at .later [] [.data, .data, .pinned] true (true, "5629122fc7e22ec38083d154da1d52d5b6c509a811ad847a0e4b167bf671c9f1") false
    over (fun _ h => by cases h) (by kernel_rfl) (fun _ h => by cases h) overApart_row_tie rfl ⟨rfl, rfl⟩ (by kernel_rfl) rfl
    (fun f fn hf hfn => by
      obtain rfl : f = 5 := Option.some.inj ((show Tryd.prog.funcNamed "epitome/epitomelaw11.OverApart" = some 5 by kernel_rfl).symm.trans hf) |>.symm
      obtain rfl : fn = Tryd.f5 := (Option.some.inj (Tryd.func5.symm.trans hfn)).symm
      exact ⟨by kernel_rfl, fun j t ht => by
        rw [Tryd.params5] at ht
        match j, ht with
        | 0, ht =>
          obtain rfl : t = 22 := by simpa using ht.symm
          exact (show Tryd.prog.wantsStandIn 22 = false by kernel_rfl)
        | 1, ht =>
          obtain rfl : t = 22 := by simpa using ht.symm
          exact (show Tryd.prog.wantsStandIn 22 = false by kernel_rfl)
        | 2, ht =>
          obtain rfl : t = 35 := by simpa using ht.symm
          exact (show Tryd.prog.wantsStandIn 35 = false by kernel_rfl)
        | j + 3, ht => simp at ht⟩)
    (by kernel_rfl)
theorem proved : Rows.OverApartCardSaid := card
end Go.Proofs.YtnfaahacakliiaaDoor.overApart
namespace Go.Proofs.YtnfaahacakliiaaDoor
theorem overApart_holds : Rows.OverApartCardSaid := overApart.proved
#print axioms overApart_holds
end Go.Proofs.YtnfaahacakliiaaDoor
end
