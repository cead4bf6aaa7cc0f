import Derived.Test.YthhgobiaecehbaaDoorKCFuseDoesE
import Derived.Test.YthhgobiaecehbaaDoorKCFuseDoesPA
import Derived.Below
import Derived.Deep.Draws
import Derived.Deep.AppendLies
import Derived.Maps.AppendAt
import Derived.OwnWalk
import Derived.Laws.BytesArg
import Derived.Laws.MakeOwn
import Derived.Laws.OwnMore
import Derived.Deep.OwnRows
import Derived.Tactics
import Derived.Lib.ConvBytes
import Derived.Laws.Slices
import Derived.WalkKit
import Derived.KernelRfl
import Derived.RowKit3
import Derived.Deep.LoopGhost
import Derived.Deep.QuietTactic
import Derived.BigQuiet
import Derived.WideLaws
import Derived.Deep.DeepCutAuto
import Derived.Deep.CutBlock
import Derived.Deep.RegionHeld3
import Derived.Laws.Rows
import Derived.Lib.AppendStr
import Derived.ArgAppend
import Derived.Laws.IdiomCopy
import Derived.RowKit
import Derived.OrdersHeld
import Derived.Laws.BitsLemmas
import Derived.Laws.StructEq
import Derived.Test.YthhgobiaecehbaaDoorProg
import Derived.Handy
import Derived.Shelf.Unicode.DecodeSlow
import Derived.Ground.NamesProg
import Derived.Shelf.Unicode.ValidAny
import Derived.Laws.IdiomStrings
import Derived.Laws.Cover4
import Derived.Laws.RangeString
import Derived.Laws.RangeAny
import Derived.Lib.RuneCount
import Derived.Great.BuildSlice
import Derived.ProofKit
import Derived.OpenShut
import Derived.ShutString
import Derived.ChangeOld
import Derived.SizedLaws
import Derived.Lib.ValidLaws
import Derived.Test.YthhgobiaecehbaaDoorRows
import Derived.Lib.LaidU8T
import Derived.Lib.LaidIn
import Derived.LaidLaws
import Derived.Test.YthhgobiaecehbaaDoorTie
import Derived.Test.YthhgobiaecehbaaDoorCards
import Derived.Carry
import Derived.ChangeSame
import Derived.ChangeVars
import Derived.JoinedOf
import Derived.SevenTiedAt
section
namespace Go.Proofs.YthhgobiaecehbaaDoor.F
open Go.RowKit Go.Proofs.YthhgobiaecehbaaDoorW.PrintWords Go.Proofs.YthhgobiaecehbaaDoorW.PrintLast Go.Proofs.YthhgobiaecehbaaDoorW.PrintMore
attribute [local go_sem] max2_int min2_int max_two min_two max_three min_three max_four min_four cell_setCell_isSome
set_option linter.unusedVariables false
set_option linter.unusedSimpArgs false
def epitomelaw10_FuseDoes.Pure : Prop := ∀ (a0 : ByteArray) (l1 : List (List (S41))), a0.size ≤ maxLen → (l1.length ≤ maxLen ∧ ∀ x_ ∈ l1, (x_.length ≤ maxLen ∧ ∀ x_x_ ∈ x_, V41 x_x_)) → ∃ k, epitomelaw10_FuseDoes.f k a0 l1 = some true
end Go.Proofs.YthhgobiaecehbaaDoor.F
end
section
namespace Go.Proofs.YthhgobiaecehbaaDoor.F
open Go.RowKit Go.Proofs.YthhgobiaecehbaaDoorW.PrintWords Go.Proofs.YthhgobiaecehbaaDoorW.PrintLast Go.Proofs.YthhgobiaecehbaaDoorW.PrintMore
set_option linter.unusedVariables false
set_option linter.unusedSimpArgs false
theorem put10_loop (l : List Un) (hl : Ok l) : ∀ (r pre : List Un), l = pre ++ r →
    Ev (fun k => epitomelaw10_put.l0 k (l.map Un.sp) ((putsU (exU pre) : Nat) : Int) (pre.length : Int)) ((putsU (exU l) : Nat) : Int)
  | [], pre, h => by
    rw [List.append_nil] at h
    subst h
    refine Ev.step (f := fun _ => some ((putsU (exU l) : Nat) : Int)) (fun k => ?_) (Ev.now _)
    rw [epitomelaw10_put.l0, if_neg (by simp)]
  | u :: r, pre, h => by
    have hlt : (pre.length : Int) < ((l.map Un.sp).length : Int) := by subst h; simp <;> omega
    have hpl : pre.length ≤ l.length := by rw [h]; simp
    have hlen := hl.len
    have hrd : rd_T41 (l.map Un.sp) (pre.length : Int) = u.sp := by
      rw [h, List.map_append, List.map_cons]
      exact rdS_at (by simp)
    have ih := put10_loop l hl r (pre ++ [u]) (by simp [h])
    have hu : u ∈ l := by rw [h]; simp
    have hok := hl.ok u hu
    have hco := hl.cout_mem hu
    have b1 := pre_puts hl (show l = (pre ++ [u]) ++ r by simp [h])
    rw [exU_append, putsU_app2, show exU [u] = u.ex by simp [exU]] at ih b1
    rw [List.length_append, List.length_singleton] at ih
    cases u with
    | put p =>
      rw [show (Un.put p).ex = p.map .p from rfl, putsU_put2] at ih b1
      refine Ev.step (f := fun k => epitomelaw10_put.l0 k (l.map Un.sp) ((putsU (exU pre) + p.length : Nat) : Int) ((pre.length + 1 : Nat) : Int)) (fun k => ?_) ih
      rw [epitomelaw10_put.l0, if_pos hlt, if_pos (by omega), hrd, if_pos (show (Un.put p).sp.f0 = 2 from rfl), show (Un.put p).sp.f2 = encT p from rfl, count_enc p hok hco, Option.bind_some, w64_succ _ (by omega), w64 (by omega) (by omega)]
      simp
    | keep n =>
      rw [show (Un.keep n).ex = List.replicate n .k from rfl, putsU_k2] at ih
      refine Ev.step (f := fun k => epitomelaw10_put.l0 k (l.map Un.sp) ((putsU (exU pre) + 0 : Nat) : Int) ((pre.length + 1 : Nat) : Int)) (fun k => ?_) ih
      rw [epitomelaw10_put.l0, if_pos hlt, if_pos (by omega), hrd, if_neg (show ¬ (Un.keep n).sp.f0 = 2 by simp [Un.sp]), w64_succ _ (by omega)]
      rfl
    | drop n =>
      rw [show (Un.drop n).ex = List.replicate n .d from rfl, putsU_d2] at ih
      refine Ev.step (f := fun k => epitomelaw10_put.l0 k (l.map Un.sp) ((putsU (exU pre) + 0 : Nat) : Int) ((pre.length + 1 : Nat) : Int)) (fun k => ?_) ih
      rw [epitomelaw10_put.l0, if_pos hlt, if_pos (by omega), hrd, if_neg (show ¬ (Un.drop n).sp.f0 = 2 by simp [Un.sp]), w64_succ _ (by omega)]
      rfl
theorem put10_is {l : List Un} (hl : Ok l) : Ev (fun k => epitomelaw10_put.f k (l.map Un.sp)) ((putsU (exU l) : Nat) : Int) := by
  have := put10_loop l hl l [] rfl
  unfold epitomelaw10_put.f
  exact this
theorem sum_le {α : Type} (g : α → Nat) (C : Nat) : ∀ l : List α, (∀ x ∈ l, g x ≤ C) → (l.map g).sum ≤ C * l.length
  | [], _ => Nat.zero_le _
  | x :: l, h => by
    have h1 := h x (by simp)
    have h2 := sum_le g C l (fun y hy => h y (by simp [hy]))
    rw [List.map_cons, List.sum_cons, List.length_cons, Nat.mul_succ]
    omega
theorem chainOk_ok : ∀ (w : List (List Un)) (n : Nat), ChainOk n w → ∀ us ∈ w, Ok us
  | [], _, _, us, h => by cases h
  | vs :: w, n, ⟨fu, hc⟩, us, h => by
    rcases List.mem_cons.1 h with rfl | h
    · exact fu.ok
    · exact chainOk_ok w _ hc us h
theorem does_loop {w : List (List Un)} (hw : w.length ≤ 20) (hok : ∀ us ∈ w, Ok us) {c : List Sp} {p q : ByteArray} {m : Int} : ∀ (r pre : List (List Un)), w = pre ++ r →
    Ev (fun k => epitomelaw10_FuseDoes.l0 k true (rowsS w) c 0 p 0 q 0 m 0 (((w.map (fun us => (canon (exU us)).length)).sum : Nat) : Int) (((w.map (fun us => putsU (exU us))).sum : Nat) : Int) (w.length : Int)) true →
    Ev (fun k => epitomelaw10_FuseDoes.l0 k true (rowsS w) c 0 p 0 q 0 m 0 (((pre.map (fun us => (canon (exU us)).length)).sum : Nat) : Int) (((pre.map (fun us => putsU (exU us))).sum : Nat) : Int) (pre.length : Int)) true
  | [], pre, h, he => by
    rw [List.append_nil] at h
    subst h
    exact he
  | us :: r, pre, h, he => by
    have ih := does_loop hw hok r (pre ++ [us]) (by simp [h]) he
    have hll : w.length = pre.length + (r.length + 1) := by rw [h]; simp
    have hrl := rowsS_length w
    have hu := hok us (by rw [h]; simp)
    have eg := rowsS_get h
    have hm : ∀ vs ∈ pre ++ [us], Ok vs := fun vs hv => hok vs (by rw [h]; simp at hv ⊢; rcases hv with hv | hv; exact .inl hv; exact .inr (.inl hv))
    have b1 := sum_le (fun us => (canon (exU us)).length) 2097152 (pre ++ [us]) (fun vs hv => by
      have h1 := canon_less vs
      have h2 := (hm vs hv).len
      show (canon (exU vs)).length ≤ _
      omega)
    have b2 := sum_le (fun us => putsU (exU us)) 1099511627776 (pre ++ [us]) (fun vs hv => by
      have h1 := putsU_cout (exU vs)
      have h2 := coutU_ex vs
      have h3 := (hm vs hv).cout
      show putsU (exU vs) ≤ _
      omega)
    rw [List.length_append, List.length_singleton] at ih b1 b2
    rw [List.map_append, List.sum_append] at b1 b2
    rw [List.map_append, List.sum_append, List.map_append, List.sum_append] at ih
    simp only [List.map_cons, List.map_nil, List.sum_cons, List.sum_nil, Nat.add_zero] at ih b1 b2
    refine Ev.step (f := fun k => (normal_Of.f k (us.map Un.sp)).bind fun t118 => (epitomelaw10_put.f k (us.map Un.sp)).bind fun t122 => epitomelaw10_FuseDoes.l0 k true (rowsS w) c 0 p 0 q 0 m 0 (wrap64 ((((pre.map (fun us => (canon (exU us)).length)).sum : Nat) : Int) + (t118.length : Int))) (wrap64 ((((pre.map (fun us => putsU (exU us))).sum : Nat) : Int) + t122)) ((pre.length + 1 : Nat) : Int)) (fun k => ?_) ?_
    · rw [epitomelaw10_FuseDoes.l0, if_pos (by omega), if_pos (by omega), w64_succ _ (by omega), ← eg]
      rfl
    · refine Ev.bind (normalOk_is hu) (Ev.bind (put10_is hu) ?_)
      rw [List.length_map, w64 (by omega) (by omega), w64 (by omega) (by omega)]
      exact ih
theorem Pure.FuseDoes : epitomelaw10_FuseDoes.Pure := by
  intro a0 l1 h0 h1
  apply Ev.rounds
  have hmn := mn_le (a0.size : Int) 30
  have hex := extract_size a0 (mn (a0.size : Int) 30).toNat
  have hf := fit01_is (a0.extract 0 (mn (a0.size : Int) 30).toNat) (by omega)
  obtain ⟨t, ht⟩ : ∃ t, fitRunes (a0.extract 0 (mn (a0.size : Int) 30).toNat) = t := ⟨_, rfl⟩
  have tl : t.length ≤ 30 := by rw [← ht, fitRunes_length]; omega
  have tr : Runes t := fun r hr => alpha_rune r (fitRunes_mem _ r (by rw [ht]; exact hr))
  rw [ht] at hf
  obtain ⟨w, hcw, hc, hwl⟩ := chain_is l1 h1.1 h1.2 t.length (by omega)
  have wle := endN_le w _ hc
  have gW := chainG_of w _ hc (by omega)
  obtain ⟨eF, rF, iF, oF, bF⟩ := fuseG_is gW (by omega)
  have okF := fuseG_ok gW (by omega)
  have aF := fuse_app w (List.replicate t.length .k) t (by rw [keeps_in]) (by rw [keeps_out]; exact hc)
  have ak : app (List.replicate t.length .k) t = t := by have := app_keep t.length [] t (Nat.le_refl _); simpa [app] using this
  rw [ak] at aF
  have pF := fuse_puts w (List.replicate t.length .k)
  rw [putsU_k2, Nat.zero_add] at pF
  have sF : w.length ≠ 0 → (canon (fuseU (List.replicate t.length .k) (exR w))).length ≤ (w.map (fun us => (canon (exU us)).length)).sum := by
    intro hne
    rcases w with _ | ⟨us, w⟩
    · exact absurd rfl hne
    · obtain ⟨fu, hc2⟩ := hc
      rw [fuse_first fu.cinU]
      have := fuse_short w (exU us) (by rw [fu.coutU]; exact hc2)
      rw [List.map_cons, List.sum_cons]
      exact this
  generalize hF : fuseU (List.replicate t.length .k) (exR w) = F at *
  have fi := canon_in F
  have ap := applyTo_is okF t tr (by omega)
  rw [ex_canon, aF] at ap
  have aa := applyAll_is (w := w) (by omega) tr (by omega) (chain_appOk w t tr hc)
  have la := apps_length w t hc
  have ra := apps_runes w t t.length tr hc
  have isn := normalIs_is ((canon F).map Un.sp) (by have := okF.len; rw [List.length_map]; omega)
  rw [isNp_canon] at isn
  have pu := put10_is okF
  rw [ex_canon] at pu
  have cn := count_enc (apps t w) ra (by omega)
  have lp := does_loop (c := (canon F).map Un.sp) (p := encT (apps t w)) (q := encT (apps t w)) (m := (endN t.length w : Int)) hwl (chainOk_ok w _ hc) w [] rfl (by
    refine Ev.step (f := fun k => (points_Count.f (encT (apps t w))).bind fun t123 => if (endN t.length w : Int) = t123 then (normal_Is.f k ((canon F).map Un.sp)).bind fun t124 => (if t124 = true then (epitomelaw10_put.f k ((canon F).map Un.sp)).bind fun t125 => (if t125 ≤ (((w.map (fun us => putsU (exU us))).sum : Nat) : Int) then (if ((rowsS w).length : Int) = 0 then some true else some (decide ((((canon F).map Un.sp).length : Int) ≤ (((w.map (fun us => (canon (exU us)).length)).sum : Nat) : Int)))) else some false) else some false) else some false) (fun k => ?_) ?_
    · rw [epitomelaw10_FuseDoes.l0, if_neg (by rw [rowsS_length]; omega), if_pos rfl, if_pos rfl, if_pos rfl, if_pos rfl, if_pos rfl, if_pos rfl]
    · refine ev_some cn (ev_if_pos (by omega) (Ev.bind isn (ev_if_pos rfl (Ev.bind pu (ev_if_pos (by omega) ?_)))))
      by_cases hz : w.length = 0
      · exact ev_if_pos (by rw [rowsS_length]; omega) (Ev.now true)
      · refine ev_if_neg (by rw [rowsS_length]; omega) ?_
        have := sF hz
        rw [decide_eq_true (by rw [List.length_map]; omega)]
        exact Ev.now true)
  unfold epitomelaw10_FuseDoes.f
  refine Ev.bind shown10 (ev_if_pos (by omega) (ev_if_pos (by omega) (Ev.bind hf (ev_some (count_enc t tr (by omega)) (Ev.bind hcw (Ev.bind eF (Ev.bind ap (Ev.bind aa (Ev.bind (chainC_is gW (by omega)) ?_)))))))))
  exact lp
end Go.Proofs.YthhgobiaecehbaaDoor.F
end
section
namespace Go.Proofs.YthhgobiaecehbaaDoor.fuseDoes
open Go.ChangeShapes Go.WideShapes Go.ChangeAt Go.RowKit Go.Proofs.YthhgobiaecehbaaDoor.F
open Go.Proofs.YthhgobiaecehbaaDoorW.PrintWords
open Go.ChangeMaps (open_string shut_string)
set_option linter.unusedVariables false
theorem own : ownKnob Tryd.prog.godebug = none := by kernel_rfl
theorem laidOut : laidOutB Tryd.prog = true := by kernel_rfl
theorem laid_met (os : Os) (args : Array Value) : laidMetH Tryd.prog Rows.fuseDoesRow.laid ((laidWorld os).forCall (fun _ _ => 0) ⟨#[], args, []⟩).memory :=
  (LaidIn.of_run (l := Rows.fuseDoesRow.laid) [2, 0, 1] 8 (by kernel_rfl) (by kernel_rfl) (by kernel_rfl) (by kernel_rfl)).met
set_option maxRecDepth 100000 in
theorem lifted (os : Os) (started : os.Started) (H : Type) (enc : TypeId × Value → H) :
    ReturnsInHanded {} Tryd.checked os 8 .any (fun w args => (Rows.fuseDoesSpec.pre enc Tryd.prog Tryd.f8 [] false w args ∧ laidMetH Tryd.prog Rows.fuseDoesRow.laid w) ∧ sizedMet enc Tryd.prog Tryd.f8 (OpenSpec.ofChange Rows.fuseDoesSpec) false w args) (Rows.fuseDoesSpec.post enc Tryd.prog Tryd.f8 false true false false) := by
  refine returnsInHanded_of_change_and (C := Tryd.checked) (X := (fun w _ => laidMetH Tryd.prog Rows.fuseDoesRow.laid w)) (fun _ _ _ hh h => h.of_heap hh) own started (by kernel_rfl) Tryd.func8
    (ChangeSpec.witness_at (enc := enc) (C := Tryd.checked) (os := os) (X := (fun w _ => laidMetH Tryd.prog Rows.fuseDoesRow.laid w)) false (laidWorld os) #[.string ByteArray.empty, .slice none 0 0] 8 rfl (by kernel_rfl) (by kernel_rfl) (by kernel_rfl) (by kernel_rfl) (by kernel_rfl) (laid_met os _)) ?_
  intro W base args ds gs before hval0 hW _ _ hL _
  have hG : Glob W := glob_of_reads (Lib.laidMet.reads hL (.tail _ (.tail _ (.head _)))) (Lib.laidMet.reads hL (.head _)) (Lib.laidMet.reads hL (.tail _ (.head _)))
  have hval : ∀ (j : Nat) t v, Tryd.f8.params[j]? = some t → args[j]? = some v → Value.okWide Tryd.prog W .any base t v := hval0
  have hW' := hW
  obtain ⟨p, q, hA0, hV, rfl, hfz, hnd⟩ := hW
  have hA : DataW.TrodAll enc Tryd.prog W 0 (fun _ => true) true Tryd.f8.params.toList args.toList ds p := hA0
  rw [Tryd.params8] at hA hval
  obtain ⟨v0, vs0, d0, ds0, p0, q0, hargs, rfl, rfl, h0, r0⟩ := trodAll_cons hA
  obtain ⟨v1, vs1, d1, ds1, p1, q1, rfl, rfl, rfl, h1, r1⟩ := trodAll_cons r0
  obtain ⟨rfl, rfl, rfl⟩ := trodAll_nil r1
  obtain rfl : args = #[v0, v1] := by cases args; simp_all
  obtain ⟨rfl, rfl⟩ := trodVars_none hV
  obtain ⟨a0, rfl, rfl, rfl, hv0⟩ := open_string Tryd.underlying9 (hval 0 9 v0 rfl rfl) h0
  obtain ⟨A1, n1, c1, rfl⟩ := okWide_slice Tryd.underlying22 (hval 1 22 v1 rfl rfl)
  have k1 := h1
  have lt1 : ∀ x ∈ p1, x.block < W.heap.size := by obtain ⟨m, hm⟩ := k1; exact DataW.trod_lt m _ _ _ hm
  obtain ⟨l1, z1, hv1⟩ : ∃ l, (Kd.slice 24 (Kd.slice 41 k41)).K W l [Value.slice A1 n1 c1] ∧ (fun v_ => (v_.length ≤ maxLen ∧ ∀ x_ ∈ v_, (x_.length ≤ maxLen ∧ ∀ x_x_ ∈ x_, V41 x_x_))) l := by
    obtain ⟨fuel, hf⟩ := h1
    exact (opens_slice Tryd.underlying22 (by kernel_rfl) (opens_slice Tryd.underlying24 (by kernel_rfl) opens41)) enc W _ _ _ _ _ _ hf
  obtain ⟨A_, c_, e, hc1, hr1⟩ := z1
  simp only [List.cons.injEq, Value.slice.injEq, and_true] at e
  obtain ⟨rfl, rfl, rfl⟩ := e
  obtain ⟨k, h⟩ := Pure.FuseDoes a0 l1 hv0 hv1
  refine (epitomelaw10_FuseDoes.calls k a0 _ _ l1 true ⟨rfl⟩ W hG hr1 hc1 h).mono ?_
  rintro e W' ⟨rfl, hd⟩
  have bel : Below W.heap.size W W' := hd
  exact ⟨_, rfl, _, _, _, [], _, [], hW', trodAll_mk1 (shut_bool Tryd.underlying4 _), (trodAll_cons_mk (shut_string Tryd.underlying9 hv0) (trodAll_cons_mk (Below.trod laidOut (by kernel_rfl) (of_decide_eq_true (by kernel_rfl)) k1 bel lt1) trodAll_mk0)), rfl, bel.frame _, fun h => by cases h⟩
theorem over : Rows.fuseDoesRow.holds Tryd.pinned (OpenSpec.ofChange Rows.fuseDoesSpec) :=
  OpenClaim.holds_of_wide 8 Tryd.f8 rfl rfl rfl rfl rfl rfl rfl ⟨rfl, rfl, rfl, rfl, rfl⟩ rfl rfl rfl rfl rfl (by kernel_rfl) Tryd.func8 (by kernel_rfl)
    (of_decide_eq_true (by kernel_rfl)) (by unfold Func.isWrapper; first | (rw [if_pos (by decide +kernel)]; kernel_rfl) | (rw [if_neg (by decide +kernel)]; exact ⟨rfl, rfl⟩))
    (fun os started H enc _ => lifted os started H enc)
theorem card : Claim7.holds Tryd.pinned (.plain (OpenSpec.ofChange Rows.fuseDoesSpec)) Rows.fuseDoesCard :=
  Claim7.holds_tied_plain_at .later [] [.data, .data, .pinned] true (true, "8fb316f5ff7554be16da48bf4668a02c6c874877236834196521f490ba2e0f73") false
    over (fun _ h => by cases h) (by kernel_rfl) (fun _ h => by cases h) fuseDoes_row_tie rfl ⟨rfl, rfl⟩ (by kernel_rfl) rfl
    (fun f fn hf hfn => by
      obtain rfl : f = 8 := Option.some.inj ((show Tryd.prog.funcNamed "epitome/epitomelaw10.FuseDoes" = some 8 by kernel_rfl).symm.trans hf) |>.symm
      obtain rfl : fn = Tryd.f8 := (Option.some.inj (Tryd.func8.symm.trans hfn)).symm
      exact ⟨by kernel_rfl, fun j t ht => by
        rw [Tryd.params8] at ht
        match j, ht with
        | 0, ht =>
          obtain rfl : t = 9 := by simpa using ht.symm
          exact (show Tryd.prog.wantsStandIn 9 = false by kernel_rfl)
        | 1, ht =>
          obtain rfl : t = 22 := by simpa using ht.symm
          exact (show Tryd.prog.wantsStandIn 22 = false by kernel_rfl)
        | j + 2, ht => simp at ht⟩)
    (by kernel_rfl)
theorem proved : Rows.FuseDoesCardSaid := card
end Go.Proofs.YthhgobiaecehbaaDoor.fuseDoes
namespace Go.Proofs.YthhgobiaecehbaaDoor
theorem fuseDoes_holds : Rows.FuseDoesCardSaid := fuseDoes.proved
#print axioms fuseDoes_holds
end Go.Proofs.YthhgobiaecehbaaDoor
end
