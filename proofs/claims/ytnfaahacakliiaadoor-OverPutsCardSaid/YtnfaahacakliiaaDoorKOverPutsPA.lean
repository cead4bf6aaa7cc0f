import Derived.Test.YtnfaahacakliiaaDoorKOverPutsA
import Derived.Test.YtnfaahacakliiaaDoorKOPA
import Derived.Below
import Derived.Deep.Draws
import Derived.Deep.AppendLies
import Derived.Maps.AppendAt
import Derived.OwnWalk
import Derived.Laws.BytesArg
import Derived.Laws.MakeOwn
import Derived.Laws.OwnMore
import Derived.Deep.OwnRows
import Derived.Tactics
import Derived.Lib.ConvBytes
import Derived.Laws.Slices
import Derived.WalkKit
import Derived.KernelRfl
import Derived.RowKit3
import Derived.Deep.LoopGhost
import Derived.Deep.QuietTactic
import Derived.BigQuiet
import Derived.WideLaws
import Derived.Deep.DeepCutAuto
import Derived.Deep.CutBlock
import Derived.Deep.RegionHeld3
import Derived.Laws.Rows
import Derived.Lib.AppendStr
import Derived.ArgAppend
import Derived.Laws.IdiomCopy
import Derived.RowKit
import Derived.OrdersHeld
import Derived.Laws.BitsLemmas
import Derived.Laws.StructEq
import Derived.Test.YtnfaahacakliiaaDoorProg
import Derived.Handy
import Derived.Shelf.Unicode.DecodeSlow
import Derived.Ground.NamesProg
import Derived.Shelf.Unicode.ValidAny
import Derived.Laws.RangeString
import Derived.Laws.RangeAny
import Derived.Lib.RuneCount
import Derived.Laws.IdiomStrings
import Derived.Laws.Cover4
import Derived.Great.BuildSlice
import Derived.Defers
import Derived.RangeFuncNested
import Derived.RangeFuncBound
import Derived.RangeFuncCalls
import Derived.RangeFuncLeaves
import Derived.Shelf.Abstract
import Derived.Shelf.RegionOpen
import Derived.OwnWalkIn
import Derived.TacticsInMore
import Derived.LoopNIn
import Derived.LoopIn
import Derived.ProofKit
import Derived.OpenShut
import Derived.ShutString
import Derived.ChangeOld
import Derived.SizedLaws
import Derived.Lib.ValidLaws
import Derived.Test.YtnfaahacakliiaaDoorRows
import Derived.Lib.LaidU8T
import Derived.Lib.LaidIn
import Derived.LaidLaws
import Derived.Test.YtnfaahacakliiaaDoorTie
import Derived.Test.YtnfaahacakliiaaDoorCards
import Derived.Carry
import Derived.ChangeSame
import Derived.ChangeVars
import Derived.JoinedOf
import Derived.SevenTiedAt
section
namespace Go.Proofs.YtnfaahacakliiaaDoor.F
open Go.RowKit Go.Proofs.YtnfaahacakliiaaDoorW.PrintWords Go.Proofs.YtnfaahacakliiaaDoorW.PrintLast Go.Proofs.YtnfaahacakliiaaDoorW.PrintMore
attribute [local go_sem] max2_int min2_int max_two min_two max_three min_three max_four min_four cell_setCell_isSome
set_option linter.unusedVariables false
set_option linter.unusedSimpArgs false
def epitomelaw11_OverPuts.Pure : Prop := ∀ (a0 : ByteArray) (l1 : List (S32)) (a2_0 : Int) (a2_1 : Int), a0.size ≤ maxLen → (l1.length ≤ maxLen ∧ ∀ x_ ∈ l1, V32 x_) → (Lit.int .u8 a2_0).wf = true → (Lit.int .u8 a2_1).wf = true → ∃ k, epitomelaw11_OverPuts.f k a0 l1 a2_0 a2_1 = some true
end Go.Proofs.YtnfaahacakliiaaDoor.F
end
section
namespace Go.Proofs.YtnfaahacakliiaaDoor.F
open Go.RowKit Go.Proofs.YtnfaahacakliiaaDoorW.PrintWords Go.Proofs.YtnfaahacakliiaaDoorW.PrintLast Go.Proofs.YtnfaahacakliiaaDoorW.PrintMore
set_option linter.unusedVariables false
set_option linter.unusedSimpArgs false
theorem inS_un (u : Un) : inS u.sp = (u.cin : Int) := by unfold inS; rw [spanIn_is]; rfl
theorem outS_un (u : Un) (h : u.ok) (h2 : u.cout ≤ 1099511627776) : outS u.sp = (u.cout : Int) := by unfold outS; rw [spanOut_is u h h2]; rfl
theorem spanIn_some (a b : Int) (c : ByteArray) : (span_In.f a b c).isSome = true := by
  unfold span_In.f span_of.f
  split
  · rfl
  · split
    · rfl
    · split <;> rfl
theorem stepsOk_un {us : List Un} (h : Ok us) : stepsOk (us.map Un.sp) = true := by
  unfold stepsOk
  rw [List.all_eq_true]
  intro s hs
  obtain ⟨u, hu, rfl⟩ := List.mem_map.1 hs
  rw [spanIn_some, spanOut_is u (h.ok u hu) (h.cout_mem hu)]
  rfl
theorem stepsL_un {u : Un} {us : List Un} (h : Ok (u :: us)) (i o : Nat) (hi : i + u.cin ≤ 4611686018427387904) (ho : o + u.cout ≤ 4611686018427387904) :
    ∃ x : St, stepsL ((u :: us).map Un.sp) (i : Int) (o : Int) = x :: stepsL (us.map Un.sp) ((i + u.cin : Nat) : Int) ((o + u.cout : Nat) : Int) ∧ x.s = u.sp ∧ x.i = (i : Int) ∧ x.o = (o : Int) := by
  have h1 := spanOut_is u (h.ok u (by simp)) (h.cout_mem (by simp))
  have h2 : (span_Out.f u.sp.f0 u.sp.f1 u.sp.f2).isSome = true := by rw [h1]; rfl
  refine ⟨⟨u.sp, i, o, h2⟩, ?_, rfl, rfl, rfl⟩
  rw [List.map_cons, stepsL, dif_pos h2, inS_un, outS_un u (h.ok u (by simp)) (h.cout_mem (by simp)), w64 (by omega) (by omega), w64 (by omega) (by omega)]
  rfl
theorem stepsL_nil (i o : Int) : ∃ x : St, stepsL [] i o = [x] ∧ x.s = ⟨0, 0, ⟨#[]⟩⟩ ∧ x.i = i ∧ x.o = o := ⟨_, rfl, rfl, rfl, rfl⟩
theorem whereS_past {us : List Un} (h : Ok us) (gap : Int) (i o : Nat) (a : Int) (hg : (i : Int) > gap) (hi : i ≤ 4611686018427387904 - 1048576) (ho : o ≤ 1099511627776) : whereS gap (stepsL (us.map Un.sp) (i : Int) (o : Int)) a = a := by
  cases us with
  | nil =>
    obtain ⟨x, e, h1, h2, h3⟩ := stepsL_nil (i : Int) (o : Int)
    rw [List.map_nil, e, whereS, if_pos (by rw [h2]; exact hg)]
  | cons u us =>
    have := h.cin
    have := h.cout
    simp only [List.map_cons, List.sum_cons] at *
    obtain ⟨x, e, h1, h2, h3⟩ := stepsL_un h i o (by omega) (by omega)
    rw [List.map_cons] at e
    rw [e, whereS, if_pos (by rw [h2]; exact hg)]
theorem whereS_is : ∀ (us : List Un) (gap i o : Nat) (a : Int), Ok us → i ≤ gap → gap ≤ 1048576 → i + (us.map Un.cin).sum ≤ 2097152 → o + (us.map Un.cout).sum ≤ 1099511627776 →
    whereS (gap : Int) (stepsL (us.map Un.sp) (i : Int) (o : Int)) a = ((o + whereU (exU us) (gap - i) : Nat) : Int)
  | [], gap, i, o, a, h, hg, _, _, _ => by
    obtain ⟨x, e, h1, h2, h3⟩ := stepsL_nil (i : Int) (o : Int)
    rw [List.map_nil, e, whereS, if_neg (by rw [h2]; omega), h1, if_neg (by decide), if_neg (by decide), whereS, h3]
    rfl
  | u :: us, gap, i, o, a, h, hg, hg2, hi, ho => by
    simp only [List.map_cons, List.sum_cons] at hi ho
    obtain ⟨x, e, h1, h2, h3⟩ := stepsL_un h i o (by omega) (by omega)
    have ih := fun a => whereS_is us gap (i + u.cin) (o + u.cout) a h.tail
    have past := fun a (hp : ((i + u.cin : Nat) : Int) > (gap : Int)) => whereS_past h.tail (gap : Int) (i + u.cin) (o + u.cout) a hp (by omega) (by omega)
    have hov := outS_un u (h.ok u (by simp)) (h.cout_mem (by simp))
    rw [e, whereS, if_neg (by rw [h2]; omega), h1, h2, h3, exU_cons]
    cases u with
    | keep n =>
      rw [if_pos (show (Un.keep n).sp.f0 = 1 from rfl), show (Un.keep n).ex = List.replicate n .k from rfl, where_keeps]
      rw [show (Un.keep n).cin = n from rfl, show (Un.keep n).cout = n from rfl] at *
      rw [show (Un.keep n).sp.f1 = (n : Int) from rfl, w64 (x := (gap : Int) - (i : Int)) (by omega) (by omega)]
      by_cases hc : gap - i < n
      · rw [past _ (by omega), if_pos hc]
        have : mn (n : Int) ((gap : Int) - (i : Int)) = (gap : Int) - (i : Int) := by unfold mn; rw [if_pos (by omega)]
        rw [this, w64 (by omega) (by omega)]
        omega
      · rw [ih _ (by omega) hg2 (by omega) (by omega), if_neg hc, show gap - (i + n) = gap - i - n by omega]
        omega
    | put l =>
      rw [if_neg (show ¬ (Un.put l).sp.f0 = 1 by simp [Un.sp]), if_pos (show (Un.put l).sp.f0 = 2 from rfl), show (Un.put l).ex = l.map .p from rfl, where_puts, hov]
      rw [show (Un.put l).cin = 0 from rfl, show (Un.put l).cout = l.length from rfl] at *
      rw [ih _ (by omega) hg2 (by omega) (by omega), Nat.add_zero]
      omega
    | drop n =>
      rw [if_neg (show ¬ (Un.drop n).sp.f0 = 1 by simp [Un.sp]), if_neg (show ¬ (Un.drop n).sp.f0 = 2 by simp [Un.sp]), show (Un.drop n).ex = List.replicate n .d from rfl, where_drops]
      rw [show (Un.drop n).cin = n from rfl, show (Un.drop n).cout = 0 from rfl] at *
      by_cases hc : gap - i < n
      · rw [past _ (by omega), if_pos hc]; omega
      · rw [ih _ (by omega) hg2 (by omega) (by omega), if_neg hc, show gap - (i + n) = gap - i - n by omega]
        omega
theorem placeWhere_is {us : List Un} (h : Ok us) (g : Nat) (hg : g ≤ (us.map Un.cin).sum) : Ev (fun k => place_Where.f k (us.map Un.sp) (g : Int)) (((whereU (exU us) g : Nat) : Int), 0) := by
  have h1 := h.cin
  have h2 := h.cout
  unfold place_Where.f
  refine ev_if_pos (stepsOk_un h) (Ev.bind (opMay_is h) (ev_if_pos rfl (ev_if_neg (by omega) (Ev.bind (opIn_is h) (ev_if_neg (by omega) ?_)))))
  have := whereS_is us g 0 0 0 h (by omega) (by omega) (by omega) (by omega)
  rw [show ((0 : Nat) : Int) = 0 from rfl, Nat.zero_add, Nat.sub_zero] at this
  rw [this]
  exact Ev.now _
end Go.Proofs.YtnfaahacakliiaaDoor.F
end
section
namespace Go.Proofs.YtnfaahacakliiaaDoor.F
open Go.RowKit Go.Proofs.YtnfaahacakliiaaDoorW.PrintWords Go.Proofs.YtnfaahacakliiaaDoorW.PrintLast Go.Proofs.YtnfaahacakliiaaDoorW.PrintMore
set_option linter.unusedVariables false
set_option linter.unusedSimpArgs false
theorem ok_put {i j : Nat} {t : List Int} (ht : Runes t) (h1 : i ≤ 1000) (h2 : j ≤ 1000) (h3 : t.length ≤ 1000) : Ok [.keep i, .put t, .keep j] := by
  refine ⟨fun u hu => ?_, by simp, by simp [Un.cin]; omega, by simp [Un.cout]; omega⟩
  simp only [List.mem_cons, List.mem_nil_iff, or_false] at hu
  rcases hu with rfl | rfl | rfl
  · trivial
  · exact ht
  · trivial
theorem ex_put (i j : Nat) (t : List Int) : exU [.keep i, .put t, .keep j] = List.replicate i .k ++ (t.map .p ++ List.replicate j .k) := by simp [exU, Un.ex]
theorem Pure.OverPuts : epitomelaw11_OverPuts.Pure := by
  intro a0 l1 a a2 h0 h1 h2 h3
  apply Ev.rounds
  obtain ⟨n, hn, en⟩ := rem64 a h2
  have b2 := wf_u8 h3
  obtain ⟨kk, hkk, ek⟩ := cut_place a2 n b2.1
  have ew : wrap64 a2 = a2 := w64 (by omega) (by omega)
  have en1 : wrap64 ((n : Int) + 1) = ((n + 1 : Nat) : Int) := w64_succ n (by omega)
  have hmn := mn_le (a0.size : Int) 20
  have hex := extract_size a0 (mn (a0.size : Int) 20).toNat
  have hf := fit01_is (a0.extract 0 (mn (a0.size : Int) 20).toNat) (by omega)
  obtain ⟨t, ht⟩ : ∃ t, fitRunes (a0.extract 0 (mn (a0.size : Int) 20).toNat) = t := ⟨_, rfl⟩
  have tl : t.length ≤ 20 := by rw [← ht, fitRunes_length]; omega
  have tr : Runes t := fun r hr => alpha_rune r (fitRunes_mem _ r (by rw [ht]; exact hr))
  rw [ht] at hf
  obtain ⟨vs, hf0, f0⟩ := fitB l1 h1.1 h1.2 n (by omega)
  have c0 := f0.cout
  have o0 := f0.coutU
  have n0 := f0.cin
  have i0 := f0.cinU
  have w1 := where_le (exU vs) kk
  have w2 : whereU (exU vs) n = coutU (exU vs) := by rw [← i0]; exact where_end _
  have ok1 := ok_put (i := kk) (j := n - kk) tr (by omega) (by omega) (by omega)
  have ok2 := ok_put (i := whereU (exU vs) kk) (j := coutU (exU vs) - whereU (exU vs) kk) tr (by omega) (by omega) (by omega)
  have ov := over_is ok1 f0.ok (by simp [Un.cout]; omega) (by omega) (by simp [Un.cin]; omega)
  rw [ex_put, over_one _ _ _ _ (by omega), ← ex_put] at ov
  have nm := normalOk_is ok2
  have m0 := canon_length (exU [.keep (whereU (exU vs) kk), .put t, .keep (coutU (exU vs) - whereU (exU vs) kk)])
  have m1 := length_two (exU [.keep (whereU (exU vs) kk), .put t, .keep (coutU (exU vs) - whereU (exU vs) kk)])
  have m2 := cinU_ex [.keep (whereU (exU vs) kk), .put t, .keep (coutU (exU vs) - whereU (exU vs) kk)]
  have m3 := coutU_ex [.keep (whereU (exU vs) kk), .put t, .keep (coutU (exU vs) - whereU (exU vs) kk)]
  simp only [List.map_cons, List.map_nil, List.sum_cons, List.sum_nil, Un.cin, Un.cout] at m2 m3
  have p1 := placeWhere_is f0.ok kk (by omega)
  have p2 := placeWhere_is f0.ok n (by omega)
  rw [w2] at p2
  have e1 : wrap64 ((n : Int) - (kk : Int)) = ((n - kk : Nat) : Int) := by rw [w64 (by omega) (by omega)]; omega
  have e2 : wrap64 (((coutU (exU vs) : Nat) : Int) - ((whereU (exU vs) kk : Nat) : Int)) = ((coutU (exU vs) - whereU (exU vs) kk : Nat) : Int) := by rw [w64 (by omega) (by omega)]; omega
  have sm := same_is ((canon (exU [.keep (whereU (exU vs) kk), .put t, .keep (coutU (exU vs) - whereU (exU vs) kk)])).map Un.sp) ((canon (exU [.keep (whereU (exU vs) kk), .put t, .keep (coutU (exU vs) - whereU (exU vs) kk)])).map Un.sp) (by rw [List.length_map]; omega)
  rw [decide_eq_true rfl] at sm
  unfold epitomelaw11_OverPuts.f
  rw [en, en1, ew, ek, e1]
  refine Ev.bind shown11 (ev_if_neg (by omega) (ev_if_pos (by omega) (ev_if_pos (by omega) (Ev.bind hf (Ev.bind hf0 ?_)))))
  refine Ev.bind p1 (Ev.bind p2 (Ev.bind ov ?_))
  refine ev_if_pos rfl (ev_if_pos rfl (ev_if_pos rfl (ev_if_pos rfl (ev_if_pos (by simp only; omega) ?_))))
  simp only
  rw [e2]
  exact Ev.bind nm (Ev.bind sm (Ev.now true))
end Go.Proofs.YtnfaahacakliiaaDoor.F
end
section
namespace Go.Proofs.YtnfaahacakliiaaDoor.overPuts
open Go.ChangeShapes Go.WideShapes Go.ChangeAt Go.RowKit Go.Proofs.YtnfaahacakliiaaDoor.F
open Go.Proofs.YtnfaahacakliiaaDoorW.PrintWords
open Go.ChangeMaps (open_string shut_string)
set_option linter.unusedVariables false
theorem own : ownKnob Tryd.prog.godebug = none := by kernel_rfl
theorem laidOut : laidOutB Tryd.prog = true := by kernel_rfl
theorem laid_met (os : Os) (args : Array Value) : laidMetH Tryd.prog Rows.overPutsRow.laid ((laidWorld os).forCall (fun _ _ => 0) ⟨#[], args, []⟩).memory :=
  (LaidIn.of_run (l := Rows.overPutsRow.laid) [2, 0, 1] 8 (by kernel_rfl) (by kernel_rfl) (by kernel_rfl) (by kernel_rfl)).met
set_option maxRecDepth 100000 in
theorem lifted (os : Os) (started : os.Started) (H : Type) (enc : TypeId × Value → H) :
    ReturnsInHanded {} Tryd.checked os 7 .any (fun w args => (Rows.overPutsSpec.pre enc Tryd.prog Tryd.f7 [] false w args ∧ laidMetH Tryd.prog Rows.overPutsRow.laid w) ∧ sizedMet enc Tryd.prog Tryd.f7 (OpenSpec.ofChange Rows.overPutsSpec) false w args) (Rows.overPutsSpec.post enc Tryd.prog Tryd.f7 false true false false) := by
  refine returnsInHanded_of_change_and (C := Tryd.checked) (X := (fun w _ => laidMetH Tryd.prog Rows.overPutsRow.laid w)) (fun _ _ _ hh h => h.of_heap hh) own started (by kernel_rfl) Tryd.func7
    (ChangeSpec.witness_at (enc := enc) (C := Tryd.checked) (os := os) (X := (fun w _ => laidMetH Tryd.prog Rows.overPutsRow.laid w)) false (laidWorld os) #[.string ByteArray.empty, .slice none 0 0, .agg #[.int .u8 0, .int .u8 0]] 8 rfl (by kernel_rfl) (by kernel_rfl) (by kernel_rfl) (by kernel_rfl) (by kernel_rfl) (laid_met os _)) ?_
  intro W base args ds gs before hval0 hW _ _ hL _
  have hG : Glob W := glob_of_reads (Lib.laidMet.reads hL (.tail _ (.tail _ (.head _)))) (Lib.laidMet.reads hL (.head _)) (Lib.laidMet.reads hL (.tail _ (.head _)))
  have hval : ∀ (j : Nat) t v, Tryd.f7.params[j]? = some t → args[j]? = some v → Value.okWide Tryd.prog W .any base t v := hval0
  have hW' := hW
  obtain ⟨p, q, hA0, hV, rfl, hfz, hnd⟩ := hW
  have hA : DataW.TrodAll enc Tryd.prog W 0 (fun _ => true) true Tryd.f7.params.toList args.toList ds p := hA0
  rw [Tryd.params7] at hA hval
  obtain ⟨v0, vs0, d0, ds0, p0, q0, hargs, rfl, rfl, h0, r0⟩ := trodAll_cons hA
  obtain ⟨v1, vs1, d1, ds1, p1, q1, rfl, rfl, rfl, h1, r1⟩ := trodAll_cons r0
  obtain ⟨v2, vs2, d2, ds2, p2, q2, rfl, rfl, rfl, h2, r2⟩ := trodAll_cons r1
  obtain ⟨rfl, rfl, rfl⟩ := trodAll_nil r2
  obtain rfl : args = #[v0, v1, v2] := by cases args; simp_all
  obtain ⟨rfl, rfl⟩ := trodVars_none hV
  obtain ⟨a0, rfl, rfl, rfl, hv0⟩ := open_string Tryd.underlying9 (hval 0 9 v0 rfl rfl) h0
  obtain ⟨A1, n1, c1, rfl⟩ := okWide_slice Tryd.underlying22 (hval 1 22 v1 rfl rfl)
  have k1 := h1
  have lt1 : ∀ x ∈ p1, x.block < W.heap.size := by obtain ⟨m, hm⟩ := k1; exact DataW.trod_lt m _ _ _ hm
  obtain ⟨l1, z1, hv1⟩ : ∃ l, (Kd.slice 32 k32).K W l [Value.slice A1 n1 c1] ∧ (fun v_ => (v_.length ≤ maxLen ∧ ∀ x_ ∈ v_, V32 x_)) l := by
    obtain ⟨fuel, hf⟩ := h1
    exact (opens_slice Tryd.underlying22 (by kernel_rfl) opens32) enc W _ _ _ _ _ _ hf
  obtain ⟨A_, c_, e, hc1, hr1⟩ := z1
  simp only [List.cons.injEq, Value.slice.injEq, and_true] at e
  obtain ⟨rfl, rfl, rfl⟩ := e
  obtain ⟨cs2, rfl⟩ := agg_array Tryd.underlying35 (hval 2 35 v2 rfl rfl)
  have k2 := h2
  have lt2 : ∀ x ∈ p2, x.block < W.heap.size := by obtain ⟨m, hm⟩ := k2; exact DataW.trod_lt m _ _ _ hm
  obtain ⟨x2, z2, hv2⟩ : ∃ x, k35.K W x cs2.toList ∧ V35 x := by
    obtain ⟨fuel, hf⟩ := h2
    exact opens35 enc W _ _ _ _ _ _ hf
  obtain ⟨c2_0, w2_0, e2_0, h2_0, h2_1⟩ := z2
  have ec2_0 := h2_0
  have ec2_1 := h2_1
  obtain rfl : cs2 = #[.int .u8 x2.f0, .int .u8 x2.f1] := by
    apply arr_of (l := [.int .u8 x2.f0, .int .u8 x2.f1])
    rw [e2_0, ec2_0, ec2_1]
    rfl
  obtain ⟨b2_0, b2_1⟩ := x2
  obtain ⟨k, h⟩ := Pure.OverPuts a0 l1 b2_0 b2_1 hv0 hv1 (by exact hv2.1) (by exact hv2.2)
  refine (epitomelaw11_OverPuts.calls k a0 _ _ l1 b2_0 b2_1 true W hG hr1 hc1 h).mono ?_
  rintro e W' ⟨rfl, hd⟩
  have bel : Below W.heap.size W W' := hd
  exact ⟨_, rfl, _, _, _, [], _, [], hW', trodAll_mk1 (shut_bool Tryd.underlying4 _), (trodAll_cons_mk (shut_string Tryd.underlying9 hv0) (trodAll_cons_mk (Below.trod laidOut (by kernel_rfl) (of_decide_eq_true (by kernel_rfl)) k1 bel lt1) (trodAll_cons_mk (Below.trod laidOut (by kernel_rfl) (of_decide_eq_true (by kernel_rfl)) k2 bel lt2) trodAll_mk0))), rfl, bel.frame _, fun h => by cases h⟩
theorem over : Rows.overPutsRow.holds Tryd.pinned (OpenSpec.ofChange Rows.overPutsSpec) :=
  OpenClaim.holds_of_wide 7 Tryd.f7 rfl rfl rfl rfl rfl rfl rfl ⟨rfl, rfl, rfl, rfl, rfl⟩ rfl rfl rfl rfl rfl (by kernel_rfl) Tryd.func7 (by kernel_rfl)
    (of_decide_eq_true (by kernel_rfl)) (by unfold Func.isWrapper; first | (rw [if_pos (by decide +kernel)]; kernel_rfl) | (rw [if_neg (by decide +kernel)]; exact ⟨rfl, rfl⟩))
    (fun os started H enc _ => lifted os started H enc)
theorem card : Claim7.holds Tryd.pinned (.plain (OpenSpec.ofChange Rows.overPutsSpec)) Rows.overPutsCard :=
  Claim7.holds_tied_plain_at .later [] [.data, .data, .pinned] true (true, "5629122fc7e22ec38083d154da1d52d5b6c509a811ad847a0e4b167bf671c9f1") false
    over (fun _ h => by cases h) (by kernel_rfl) (fun _ h => by cases h) overPuts_row_tie rfl ⟨rfl, rfl⟩ (by kernel_rfl) rfl
    (fun f fn hf hfn => by
      obtain rfl : f = 7 := Option.some.inj ((show Tryd.prog.funcNamed "epitome/epitomelaw11.OverPuts" = some 7 by kernel_rfl).symm.trans hf) |>.symm
      obtain rfl : fn = Tryd.f7 := (Option.some.inj (Tryd.func7.symm.trans hfn)).symm
      exact ⟨by kernel_rfl, fun j t ht => by
        rw [Tryd.params7] at ht
        match j, ht with
        | 0, ht =>
          obtain rfl : t = 9 := by simpa using ht.symm
          exact (show Tryd.prog.wantsStandIn 9 = false by kernel_rfl)
        | 1, ht =>
          obtain rfl : t = 22 := by simpa using ht.symm
          exact (show Tryd.prog.wantsStandIn 22 = false by kernel_rfl)
        | 2, ht =>
          obtain rfl : t = 35 := by simpa using ht.symm
          exact (show Tryd.prog.wantsStandIn 35 = false by kernel_rfl)
        | j + 3, ht => simp at ht⟩)
    (by kernel_rfl)
theorem proved : Rows.OverPutsCardSaid := card
end Go.Proofs.YtnfaahacakliiaaDoor.overPuts
namespace Go.Proofs.YtnfaahacakliiaaDoor
theorem overPuts_holds : Rows.OverPutsCardSaid := overPuts.proved
#print axioms overPuts_holds
end Go.Proofs.YtnfaahacakliiaaDoor
end
