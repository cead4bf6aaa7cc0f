import Derived.Test.YtkefbljogjcodaaDoorKCUnderChainE
import Derived.Test.YtkefbljogjcodaaDoorKCUnderChainPA
import Derived.Below
import Derived.Deep.Draws
import Derived.Deep.AppendLies
import Derived.Maps.AppendAt
import Derived.OwnWalk
import Derived.Laws.BytesArg
import Derived.Laws.MakeOwn
import Derived.Laws.OwnMore
import Derived.Deep.OwnRows
import Derived.Tactics
import Derived.Lib.ConvBytes
import Derived.Laws.Slices
import Derived.WalkKit
import Derived.KernelRfl
import Derived.RowKit3
import Derived.Deep.LoopGhost
import Derived.Deep.QuietTactic
import Derived.BigQuiet
import Derived.WideLaws
import Derived.Deep.DeepCutAuto
import Derived.Deep.CutBlock
import Derived.Deep.RegionHeld3
import Derived.Laws.Rows
import Derived.Lib.AppendStr
import Derived.ArgAppend
import Derived.Laws.IdiomCopy
import Derived.RowKit
import Derived.OrdersHeld
import Derived.Laws.BitsLemmas
import Derived.Laws.StructEq
import Derived.Test.YtkefbljogjcodaaDoorProg
import Derived.Handy
import Derived.Shelf.Unicode.DecodeSlow
import Derived.Ground.NamesProg
import Derived.Shelf.Unicode.ValidAny
import Derived.Laws.IdiomStrings
import Derived.Laws.Cover4
import Derived.Laws.RangeString
import Derived.Laws.RangeAny
import Derived.Lib.RuneCount
import Derived.Great.BuildSlice
import Derived.Defers
import Derived.Laws.EntriesVeiled
import Derived.ProofKit
import Derived.OpenShut
import Derived.ShutString
import Derived.ChangeOld
import Derived.SizedLaws
import Derived.Lib.ValidLaws
import Derived.Test.YtkefbljogjcodaaDoorRows
import Derived.Lib.LaidU8T
import Derived.Lib.LaidIn
import Derived.LaidLaws
import Derived.Test.YtkefbljogjcodaaDoorTie
import Derived.Test.YtkefbljogjcodaaDoorCards
import Derived.Carry
import Derived.ChangeSame
import Derived.ChangeVars
import Derived.JoinedOf
import Derived.SevenTiedAt
section
namespace Go.Proofs.YtkefbljogjcodaaDoor.F
open Go.RowKit Go.Proofs.YtkefbljogjcodaaDoorW.PrintWords Go.Proofs.YtkefbljogjcodaaDoorW.PrintLast Go.Proofs.YtkefbljogjcodaaDoorW.PrintMore
attribute [local go_sem] max2_int min2_int max_two min_two max_three min_three max_four min_four cell_setCell_isSome
set_option linter.unusedVariables false
set_option linter.unusedSimpArgs false
def epitomelaw12_UnderChain.Pure : Prop := ∀ (a0 : ByteArray) (l1 : List (S26)) (l2 : List (List (S26))), a0.size ≤ maxLen → (l1.length ≤ maxLen ∧ ∀ x_ ∈ l1, V26 x_) → (l2.length ≤ maxLen ∧ ∀ x_ ∈ l2, (x_.length ≤ maxLen ∧ ∀ x_x_ ∈ x_, V26 x_x_)) → ∃ k, epitomelaw12_UnderChain.f k a0 l1 l2 = some true
end Go.Proofs.YtkefbljogjcodaaDoor.F
end
section
namespace Go.Proofs.YtkefbljogjcodaaDoor.F
open Go.RowKit Go.Proofs.YtkefbljogjcodaaDoorW.PrintWords Go.Proofs.YtkefbljogjcodaaDoorW.PrintLast Go.Proofs.YtkefbljogjcodaaDoorW.PrintMore
set_option linter.unusedVariables false
set_option linter.unusedSimpArgs false
theorem meets_loop (w0 : List (List Un)) (hw0 : w0.length ≤ 20) (P : List Int) : ∀ (w pre : List (List Un)) (ys : List Un) (a : List U) (B : List Int), w0 = pre ++ w → Ok ys → exU ys = a → (ys.map Un.cin).sum = cinU a → (ys.map Un.cout).sum = coutU a → RunesU a → Runes B → cinU a = B.length → ChainOk B.length w → putsU a ≤ 200 → B.length ≤ 63 + 78 * pre.length → app (oversU a (exR w)) (apps B w) = P →
    Ev (fun k => epitomelaw12_UnderChain.l0 k true (rowsS w0) 0 0 (encT P) 0 (encT P) 0 (encT (app a B)) 0 (ys.map Un.sp) (pre.length : Int)) true
  | [], pre, ys, a, B, h, ho, he, hi, hu, hr, hB, hc, hk, hp, hb, hP => by
    rw [List.append_nil] at h
    subst h
    have hP' : app a B = P := hP
    subst hP'
    refine Ev.step (f := fun _ => some true) (fun k => ?_) (Ev.now true)
    rw [epitomelaw12_UnderChain.l0, if_neg (by simp [rowsS]), if_pos rfl, if_pos rfl, if_pos rfl, if_pos rfl, if_pos rfl, if_pos rfl, if_pos rfl, beq_self_eq_true]
  | us :: w, pre, ys, a, B, h, ho, he, hi, hu, hr, hB, hc, ⟨fu, hk⟩, hp, hb, hP => by
    have hlen : (rowsS w0).length = w0.length := by simp [rowsS]
    have htl : w0.length = pre.length + (w.length + 1) := by rw [h]; simp
    have hcu := fu.cinU
    have hou := fu.coutU
    have hco := fu.cout
    have hci := fu.cin
    have hcc : cinU a = cinU (exU us) := by omega
    have s1 := over_sizes a (exU us) hcc
    have s2 := under_sizes (exU us) a hcc.symm
    have g1 := over_small hcc
    have g2 := under_small hcc.symm
    have hao := cout_le a
    have pu := puts_le (exU us)
    have oB := overOk hr hcc (by omega) (by omega)
    have oA := underOk fu.runes hcc.symm (by omega) (by omega)
    have e := meet_is ho fu.ok (by omega) (by omega) (by omega)
    rw [he] at e
    have la := app_length a B hc
    have lu := app_length (exU us) B hcu
    have ra := app_runes a B hr hB
    have ru := app_runes (exU us) B fu.runes hB
    have iA := canon_in (underU (exU us) a)
    have iB := canon_in (overU a (exU us))
    have uB := canon_out (overU a (exU us))
    have e2 := applyTo_is oA (app a B) ra (by rw [iA]; omega)
    have bm := both_meet a (exU us) B hcc hc
    rw [ex_canon, ← bm] at e2
    have ih := meets_loop w0 hw0 P w (pre ++ [us]) (canon (overU a (exU us))) (overU a (exU us)) (app (exU us) B) (by simp [h]) oB (ex_canon _) iB uB (over_runes _ _ hr) ru (by rw [s1.1, lu]) (by rw [lu, hou]; exact hk) (by omega) (by rw [lu, hou]; simp; omega) hP
    rw [List.length_append, List.length_singleton] at ih
    refine Ev.step (f := fun k => (under_Meet.f k (ys.map Un.sp) (us.map Un.sp)).bind fun bt134 => if bt134.2.2 = 0 then (apply_To.f k bt134.2.1 (encT (app a B))).bind fun bt141 => if bt141.2 = 0 then epitomelaw12_UnderChain.l0 k true (rowsS w0) 0 0 (encT P) 0 (encT P) 0 bt141.1 0 bt134.1 ((pre.length + 1 : Nat) : Int) else some false else some false) (fun k => ?_) (Ev.bind e (ev_if_pos rfl (Ev.bind e2 (ev_if_pos rfl ih))))
    rw [epitomelaw12_UnderChain.l0, if_pos (by omega), if_pos (by omega), w64_succ _ (by omega)]
    have eg : (rowsS w0).getD (pre.length : Int).toNat [] = us.map Un.sp := by
      rw [Int.toNat_natCast, List.getD_eq_getElem?_getD, h]
      simp [rowsS]
    rw [← eg]
    rfl
theorem Pure.UnderChain : epitomelaw12_UnderChain.Pure := by
  intro a0 l1 l2 h0 h1 h2
  apply Ev.rounds
  have hmn := mn_le (a0.size : Int) 20
  have hex := extract_size a0 (mn (a0.size : Int) 20).toNat
  have hf := fit01_is (a0.extract 0 (mn (a0.size : Int) 20).toNat) (by omega)
  obtain ⟨t, ht⟩ : ∃ t, fitRunes (a0.extract 0 (mn (a0.size : Int) 20).toNat) = t := ⟨_, rfl⟩
  have tl : t.length ≤ 20 := by rw [← ht, fitRunes_length]; omega
  have tr : Runes t := fun r hr => alpha_rune r (fitRunes_mem _ r (by rw [ht]; exact hr))
  rw [ht] at hf
  obtain ⟨us, hf0, f0⟩ := fitB l1 h1.1 h1.2 t.length (by omega)
  obtain ⟨w, hcw, hc, hwl⟩ := chain_is l2 h2.1 h2.2 t.length (by omega)
  have c0 := f0.cout
  have i0 := f0.cinU
  have o0 := f0.coutU
  have n0 := f0.cin
  have p0 := puts_le (exU us)
  obtain ⟨e1, r1, i1, o1⟩ := fuse_is hc (by omega)
  obtain ⟨F, hF⟩ : ∃ F, fuseU (List.replicate t.length .k) (exR w) = F := ⟨_, rfl⟩
  have aF := fuse_app w (List.replicate t.length .k) t (by rw [keeps_in]) (by rw [keeps_out]; exact hc)
  have eo := overs_fuse w (exU us) (List.replicate t.length .k) (by rw [keeps_in, i0]) (by rw [keeps_out]; exact hc)
  have ak : app (List.replicate t.length .k) t = t := by have := app_keep t.length [] t (Nat.le_refl _); simpa [app] using this
  rw [ak, hF] at aF
  rw [show List.replicate t.length U.k = List.replicate (cinU (exU us)) .k by rw [i0], over_keep_right, show List.replicate (cinU (exU us)) U.k = List.replicate t.length .k by rw [i0], hF] at eo
  rw [hF] at e1 r1 i1 o1
  have fi := canon_in F
  have fo := canon_out F
  have okF := canon_ok r1 (by omega) (by omega)
  have em := meet_is f0.ok okF (by omega) (by omega) (by omega)
  rw [ex_canon] at em
  have hcc : cinU (exU us) = cinU F := by omega
  have pF := puts_le F
  have oB := overOk f0.runes hcc (by omega) (by omega)
  have oA := underOk r1 hcc.symm (by omega) (by omega)
  have s1 := over_sizes (exU us) F hcc
  have s2 := under_sizes F (exU us) hcc.symm
  have lu := app_length (exU us) t i0
  have lF := app_length F t i1
  have ru := app_runes (exU us) t f0.runes tr
  have rF := app_runes F t r1 tr
  have rB := app_runes (overU (exU us) F) _ (over_runes _ _ f0.runes) rF
  have rA := app_runes (underU F (exU us)) _ (under_runes _ _ r1) ru
  have bm := both_meet (exU us) F t hcc i0
  have bi := canon_in (overU (exU us) F)
  have ai := canon_in (underU F (exU us))
  have aP := applyAll_is (w := [canon F, canon (overU (exU us) F)]) (by simp) tr (by omega) ⟨okF, by omega, by rw [ex_canon]; exact rF, oB, by rw [ex_canon]; omega, by rw [ex_canon, ex_canon]; exact rB, trivial⟩
  have aQ := applyAll_is (w := [us, canon (underU F (exU us))]) (by simp) tr (by omega) ⟨f0.ok, n0, ru, oA, by omega, by rw [ex_canon]; exact rA, trivial⟩
  simp only [apps, ex_canon] at aP aQ
  rw [← bm] at aQ
  have lp := meets_loop w hwl (app (overU (exU us) F) (app F t)) w [] us (exU us) t rfl f0.ok rfl (by omega) (by omega) f0.runes tr i0 hc (by omega) (by simp; omega) (by rw [← eo, ← aF])
  unfold epitomelaw12_UnderChain.f
  refine Ev.bind shown12 (ev_if_pos (by omega) (ev_if_pos (by omega) (Ev.bind hf (ev_some (count_enc t tr (by omega)) (Ev.bind hf0 (Ev.bind hcw (Ev.bind e1 (Ev.bind em ?_))))))))
  exact Ev.bind aP (Ev.bind aQ (Ev.bind (applyTo_is f0.ok t tr n0) lp))
end Go.Proofs.YtkefbljogjcodaaDoor.F
end
section
namespace Go.Proofs.YtkefbljogjcodaaDoor.underChain
open Go.ChangeShapes Go.WideShapes Go.ChangeAt Go.RowKit Go.Proofs.YtkefbljogjcodaaDoor.F
open Go.Proofs.YtkefbljogjcodaaDoorW.PrintWords
open Go.ChangeMaps (open_string shut_string)
set_option linter.unusedVariables false
theorem own : ownKnob Tryd.prog.godebug = none := by kernel_rfl
theorem laidOut : laidOutB Tryd.prog = true := by kernel_rfl
theorem laid_met (os : Os) (args : Array Value) : laidMetH Tryd.prog Rows.underChainRow.laid ((laidWorld os).forCall (fun _ _ => 0) ⟨#[], args, []⟩).memory :=
  (LaidIn.of_run (l := Rows.underChainRow.laid) [2, 0, 1] 8 (by kernel_rfl) (by kernel_rfl) (by kernel_rfl) (by kernel_rfl)).met
set_option maxRecDepth 100000 in
theorem lifted (os : Os) (started : os.Started) (H : Type) (enc : TypeId × Value → H) :
    ReturnsInHanded {} Tryd.checked os 5 .any (fun w args => (Rows.underChainSpec.pre enc Tryd.prog Tryd.f5 [] false w args ∧ laidMetH Tryd.prog Rows.underChainRow.laid w) ∧ sizedMet enc Tryd.prog Tryd.f5 (OpenSpec.ofChange Rows.underChainSpec) false w args) (Rows.underChainSpec.post enc Tryd.prog Tryd.f5 false true false false) := by
  refine returnsInHanded_of_change_and (C := Tryd.checked) (X := (fun w _ => laidMetH Tryd.prog Rows.underChainRow.laid w)) (fun _ _ _ hh h => h.of_heap hh) own started (by kernel_rfl) Tryd.func5
    (ChangeSpec.witness_at (enc := enc) (C := Tryd.checked) (os := os) (X := (fun w _ => laidMetH Tryd.prog Rows.underChainRow.laid w)) false (laidWorld os) #[.string ByteArray.empty, .slice none 0 0, .slice none 0 0] 8 rfl (by kernel_rfl) (by kernel_rfl) (by kernel_rfl) (by kernel_rfl) (by kernel_rfl) (laid_met os _)) ?_
  intro W base args ds gs before hval0 hW _ _ hL _
  have hG : Glob W := glob_of_reads (Lib.laidMet.reads hL (.tail _ (.tail _ (.head _)))) (Lib.laidMet.reads hL (.head _)) (Lib.laidMet.reads hL (.tail _ (.head _)))
  have hval : ∀ (j : Nat) t v, Tryd.f5.params[j]? = some t → args[j]? = some v → Value.okWide Tryd.prog W .any base t v := hval0
  have hW' := hW
  obtain ⟨p, q, hA0, hV, rfl, hfz, hnd⟩ := hW
  have hA : DataW.TrodAll enc Tryd.prog W 0 (fun _ => true) true Tryd.f5.params.toList args.toList ds p := hA0
  rw [Tryd.params5] at hA hval
  obtain ⟨v0, vs0, d0, ds0, p0, q0, hargs, rfl, rfl, h0, r0⟩ := trodAll_cons hA
  obtain ⟨v1, vs1, d1, ds1, p1, q1, rfl, rfl, rfl, h1, r1⟩ := trodAll_cons r0
  obtain ⟨v2, vs2, d2, ds2, p2, q2, rfl, rfl, rfl, h2, r2⟩ := trodAll_cons r1
  obtain ⟨rfl, rfl, rfl⟩ := trodAll_nil r2
  obtain rfl : args = #[v0, v1, v2] := by cases args; simp_all
  obtain ⟨rfl, rfl⟩ := trodVars_none hV
  obtain ⟨a0, rfl, rfl, rfl, hv0⟩ := open_string Tryd.underlying9 (hval 0 9 v0 rfl rfl) h0
  obtain ⟨A1, n1, c1, rfl⟩ := okWide_slice Tryd.underlying27 (hval 1 27 v1 rfl rfl)
  have k1 := h1
  have lt1 : ∀ x ∈ p1, x.block < W.heap.size := by obtain ⟨m, hm⟩ := k1; exact DataW.trod_lt m _ _ _ hm
  obtain ⟨l1, z1, hv1⟩ : ∃ l, (Kd.slice 26 k26).K W l [Value.slice A1 n1 c1] ∧ (fun v_ => (v_.length ≤ maxLen ∧ ∀ x_ ∈ v_, V26 x_)) l := by
    obtain ⟨fuel, hf⟩ := h1
    exact (opens_slice Tryd.underlying27 (by kernel_rfl) opens26) enc W _ _ _ _ _ _ hf
  obtain ⟨A_, c_, e, hc1, hr1⟩ := z1
  simp only [List.cons.injEq, Value.slice.injEq, and_true] at e
  obtain ⟨rfl, rfl, rfl⟩ := e
  obtain ⟨A2, n2, c2, rfl⟩ := okWide_slice Tryd.underlying39 (hval 2 39 v2 rfl rfl)
  have k2 := h2
  have lt2 : ∀ x ∈ p2, x.block < W.heap.size := by obtain ⟨m, hm⟩ := k2; exact DataW.trod_lt m _ _ _ hm
  obtain ⟨l2, z2, hv2⟩ : ∃ l, (Kd.slice 27 (Kd.slice 26 k26)).K W l [Value.slice A2 n2 c2] ∧ (fun v_ => (v_.length ≤ maxLen ∧ ∀ x_ ∈ v_, (x_.length ≤ maxLen ∧ ∀ x_x_ ∈ x_, V26 x_x_))) l := by
    obtain ⟨fuel, hf⟩ := h2
    exact (opens_slice Tryd.underlying39 (by kernel_rfl) (opens_slice Tryd.underlying27 (by kernel_rfl) opens26)) enc W _ _ _ _ _ _ hf
  obtain ⟨A_, c_, e, hc2, hr2⟩ := z2
  simp only [List.cons.injEq, Value.slice.injEq, and_true] at e
  obtain ⟨rfl, rfl, rfl⟩ := e
  obtain ⟨k, h⟩ := Pure.UnderChain a0 l1 l2 hv0 hv1 hv2
  refine (epitomelaw12_UnderChain.calls k a0 _ _ l1 _ _ l2 true ⟨rfl⟩ W hG hr1 hc1 hr2 hc2 h).mono ?_
  rintro e W' ⟨rfl, hd⟩
  have bel : Below W.heap.size W W' := hd
  exact ⟨_, rfl, _, _, _, [], _, [], hW', trodAll_mk1 (shut_bool Tryd.underlying4 _), (trodAll_cons_mk (shut_string Tryd.underlying9 hv0) (trodAll_cons_mk (Below.trod laidOut (by kernel_rfl) (of_decide_eq_true (by kernel_rfl)) k1 bel lt1) (trodAll_cons_mk (Below.trod laidOut (by kernel_rfl) (of_decide_eq_true (by kernel_rfl)) k2 bel lt2) trodAll_mk0))), rfl, bel.frame _, fun h => by cases h⟩
theorem over : Rows.underChainRow.holds Tryd.pinned (OpenSpec.ofChange Rows.underChainSpec) :=
  OpenClaim.holds_of_wide 5 Tryd.f5 rfl rfl rfl rfl rfl rfl rfl ⟨rfl, rfl, rfl, rfl, rfl⟩ rfl rfl rfl rfl rfl (by kernel_rfl) Tryd.func5 (by kernel_rfl)
    (of_decide_eq_true (by kernel_rfl)) (by unfold Func.isWrapper; first | (rw [if_pos (by decide +kernel)]; kernel_rfl) | (rw [if_neg (by decide +kernel)]; exact ⟨rfl, rfl⟩))
    (fun os started H enc _ => lifted os started H enc)
theorem card : Claim7.holds Tryd.pinned (.plain (OpenSpec.ofChange Rows.underChainSpec)) Rows.underChainCard :=
  Claim7.holds_tied_plain_at .later [] [.data, .data, .pinned] true (true, "cb220046ee5715416f27fb58bb862ce5d799745ed337233484527cd9cd290028") false
    over (fun _ h => by cases h) (by kernel_rfl) (fun _ h => by cases h) underChain_row_tie rfl ⟨rfl, rfl⟩ (by kernel_rfl) rfl
    (fun f fn hf hfn => by
      obtain rfl : f = 5 := Option.some.inj ((show Tryd.prog.funcNamed "epitome/epitomelaw12.UnderChain" = some 5 by kernel_rfl).symm.trans hf) |>.symm
      obtain rfl : fn = Tryd.f5 := (Option.some.inj (Tryd.func5.symm.trans hfn)).symm
      exact ⟨by kernel_rfl, fun j t ht => by
        rw [Tryd.params5] at ht
        match j, ht with
        | 0, ht =>
          obtain rfl : t = 9 := by simpa using ht.symm
          exact (show Tryd.prog.wantsStandIn 9 = false by kernel_rfl)
        | 1, ht =>
          obtain rfl : t = 27 := by simpa using ht.symm
          exact (show Tryd.prog.wantsStandIn 27 = false by kernel_rfl)
        | 2, ht =>
          obtain rfl : t = 39 := by simpa using ht.symm
          exact (show Tryd.prog.wantsStandIn 39 = false by kernel_rfl)
        | j + 3, ht => simp at ht⟩)
    (by kernel_rfl)
theorem proved : Rows.UnderChainCardSaid := card
end Go.Proofs.YtkefbljogjcodaaDoor.underChain
namespace Go.Proofs.YtkefbljogjcodaaDoor
theorem underChain_holds : Rows.UnderChainCardSaid := underChain.proved
#print axioms underChain_holds
end Go.Proofs.YtkefbljogjcodaaDoor
end
