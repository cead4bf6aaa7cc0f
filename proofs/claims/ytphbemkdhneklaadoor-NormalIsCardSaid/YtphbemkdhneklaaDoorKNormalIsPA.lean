import Derived.Test.YtphbemkdhneklaaDoorKND
import Derived.Test.YtphbemkdhneklaaDoorKNPA
import Derived.Below
import Derived.Deep.Draws
import Derived.Deep.AppendLies
import Derived.Maps.AppendAt
import Derived.OwnWalk
import Derived.Laws.BytesArg
import Derived.Laws.MakeOwn
import Derived.Laws.OwnMore
import Derived.Deep.OwnRows
import Derived.Tactics
import Derived.Lib.ConvBytes
import Derived.Laws.Slices
import Derived.WalkKit
import Derived.KernelRfl
import Derived.RowKit3
import Derived.Deep.LoopGhost
import Derived.Deep.QuietTactic
import Derived.BigQuiet
import Derived.WideLaws
import Derived.Deep.DeepCutAuto
import Derived.Deep.CutBlock
import Derived.Deep.RegionHeld3
import Derived.Laws.Rows
import Derived.Lib.AppendStr
import Derived.ArgAppend
import Derived.Laws.IdiomCopy
import Derived.RowKit
import Derived.OrdersHeld
import Derived.Laws.BitsLemmas
import Derived.Laws.StructEq
import Derived.Test.YtphbemkdhneklaaDoorProg
import Derived.Handy
import Derived.Shelf.Unicode.DecodeSlow
import Derived.Ground.NamesProg
import Derived.Shelf.Unicode.ValidAny
import Derived.Laws.RangeString
import Derived.Laws.RangeAny
import Derived.Lib.RuneCount
import Derived.Laws.IdiomStrings
import Derived.Laws.Cover4
import Derived.ProofKit
import Derived.OpenShut
import Derived.ShutString
import Derived.ChangeOld
import Derived.SizedLaws
import Derived.Lib.ValidLaws
import Derived.Test.YtphbemkdhneklaaDoorRows
import Derived.Lib.LaidU8T
import Derived.Lib.LaidIn
import Derived.LaidLaws
import Derived.Test.YtphbemkdhneklaaDoorTie
import Derived.Test.YtphbemkdhneklaaDoorCards
import Derived.Carry
import Derived.ChangeSame
import Derived.ChangeVars
import Derived.JoinedOf
import Derived.SevenTiedAt
section
namespace Go.Proofs.YtphbemkdhneklaaDoor.F
open Go.RowKit Go.Proofs.YtphbemkdhneklaaDoorW.PrintWords Go.Proofs.YtphbemkdhneklaaDoorW.PrintLast Go.Proofs.YtphbemkdhneklaaDoorW.PrintMore
attribute [local go_sem] max2_int min2_int max_two min_two max_three min_three max_four min_four cell_setCell_isSome
set_option linter.unusedVariables false
set_option linter.unusedSimpArgs false
def epitomelaw05_NormalIs.Pure : Prop := ∀ (l0 : List (S51)) (a1 : Int), (l0.length ≤ maxLen ∧ ∀ x_ ∈ l0, V51 x_) → (Lit.int .u8 a1).wf = true → ∃ k, epitomelaw05_NormalIs.f k l0 a1 = some true
end Go.Proofs.YtphbemkdhneklaaDoor.F
end
section
namespace Go.Proofs.YtphbemkdhneklaaDoor.F
open Go.RowKit Go.Proofs.YtphbemkdhneklaaDoorW.PrintWords Go.Proofs.YtphbemkdhneklaaDoorW.PrintLast Go.Proofs.YtphbemkdhneklaaDoorW.PrintMore
set_option linter.unusedVariables false
set_option linter.unusedSimpArgs false
theorem emptyS_full (u : Un) : emptyS u.sp = !fullU u := by
  cases u with
  | keep n => rw [empty_keep]; cases n <;> simp [fullU]
  | drop n => rw [empty_drop]; cases n <;> simp [fullU]
  | put l => rw [empty_put]; cases l <;> simp [fullU]
theorem isNp_canon : ∀ y : List U, isN ((canon y).map Un.sp) = true
  | [] => rfl
  | t :: y => by
    have ih := isNp_canon y
    rw [canon_cons]
    generalize canon y = c at ih
    unfold isN at *
    rcases c with _ | ⟨v, r⟩
    · cases t <;> simp [consU, isNp, emptyS_full, fullU]
    · simp only [List.map_cons, isNp, Bool.and_eq_true, emptyS_full] at ih
      obtain ⟨h1, _, h2⟩ := ih
      cases t <;> cases v <;> simp only [consU, List.map_cons, isNp, emptyS_full, Bool.and_eq_true] <;> (first | (refine ⟨by simp [fullU], by simp, ?_⟩) | skip) <;> first | exact h2 | exact ⟨h1, by simp [Un.sp], h2⟩ | (simp [Un.sp]; done)
theorem canon_of_isNp : ∀ (us : List Un) (p : Option Int), isNp p (us.map Un.sp) = true → canon (exU us) = us
  | [], _, _ => rfl
  | u :: us, p, h => by
    simp only [List.map_cons, isNp, Bool.and_eq_true, emptyS_full] at h
    obtain ⟨h1, _, h2⟩ := h
    have h1 : fullU u = true := by simpa using h1
    rw [exU_cons, canon_un, canon_of_isNp us _ h2]
    rcases us with _ | ⟨v, r⟩
    · cases u with
      | keep n => cases n with
        | zero => simp [fullU] at h1
        | succ n => rfl
      | put l => cases l with
        | nil => simp [fullU] at h1
        | cons a l => rfl
      | drop n => cases n with
        | zero => simp [fullU] at h1
        | succ n => rfl
    · simp only [List.map_cons, isNp, Bool.and_eq_true] at h2
      have hk := h2.2.1
      cases u with
      | keep n => cases n with
        | zero => simp [fullU] at h1
        | succ n => cases v <;> first | rfl | (simp [Un.sp] at hk)
      | put l => cases l with
        | nil => simp [fullU] at h1
        | cons a l => cases v <;> first | rfl | (simp [Un.sp] at hk)
      | drop n => cases n with
        | zero => simp [fullU] at h1
        | succ n => cases v <;> first | rfl | (simp [Un.sp] at hk)
theorem isN_canon_iff (us : List Un) : isN (us.map Un.sp) = decide ((canon (exU us)).map Un.sp = us.map Un.sp) := by
  by_cases h : isN (us.map Un.sp) = true
  · rw [h, canon_of_isNp us none h]; simp
  · have : ¬ (canon (exU us)).map Un.sp = us.map Un.sp := fun e => h (by rw [← e]; exact isNp_canon _)
    rw [decide_eq_false this]
    simpa using h
theorem canon_norm (y : List U) (h : cinU y ≤ 4611686018427387904) : norm ((canon y).map Un.sp) = (canon y).map Un.sp := by
  rw [norm_ex _ (by rw [canon_in]; exact h), ex_canon]
theorem Pure.NormalIs : epitomelaw05_NormalIs.Pure := by
  intro l a h0 h1
  apply Ev.rounds
  obtain ⟨n, hn, en⟩ := rem64 a h1
  obtain ⟨us, hf, mu⟩ := fit04_is l h0.1 h0.2 n hn
  have fu := made_fit mu (by omega)
  have hz := sizeS_few us mu.few
  have hlen := mu.len
  have hc := fu.cinU
  have hco := fu.coutU
  have cu := fu.cin
  have cOk : Ok (canon (exU us)) := canon_ok fu.runes (by omega) (by omega)
  have ne : norm (us.map Un.sp) = (canon (exU us)).map Un.sp := norm_ex us (by omega)
  have nl := norm_length (us.map Un.sp)
  have ns := sizeS_norm (us.map Un.sp)
  rw [ne] at nl ns
  have ml : (us.map Un.sp).length = us.length := by simp
  have ci := canon_in (exU us)
  have co := canon_out (exU us)
  have oe := coutU_ex us
  unfold epitomelaw05_NormalIs.f
  rw [en]
  refine Ev.bind shown05 (Ev.bind hf (Ev.bind (normalFit_is fu (by omega)) (ev_if_pos rfl ?_)))
  refine Ev.bind (normalIs_is _ (by omega)) (ev_if_pos (isNp_canon _) ?_)
  refine Ev.bind (opMay_is cOk) (ev_if_pos rfl ?_)
  refine Ev.bind (opIn_is cOk) (Ev.bind (opIn_is fu.ok) (ev_if_pos (by omega) ?_))
  refine Ev.bind (opOut_is cOk) (Ev.bind (opOut_is fu.ok) (ev_if_pos (by omega) (ev_if_pos (by omega) ?_)))
  have e3 := normal_is ((canon (exU us)).map Un.sp) (by omega) (by omega)
  rw [canon_norm _ (by omega)] at e3
  refine Ev.bind e3 (Ev.bind (same_is _ _ (by omega)) (ev_if_pos (by simp) ?_))
  refine Ev.bind (normalIs_is _ (by omega)) (Ev.bind (same_is _ _ (by omega)) ?_)
  rw [isN_canon_iff, beq_self_eq_true]
  exact Ev.now _
end Go.Proofs.YtphbemkdhneklaaDoor.F
end
section
namespace Go.Proofs.YtphbemkdhneklaaDoor.normalIs
open Go.ChangeShapes Go.WideShapes Go.ChangeAt Go.RowKit Go.Proofs.YtphbemkdhneklaaDoor.F
open Go.Proofs.YtphbemkdhneklaaDoorW.PrintWords
open Go.ChangeMaps (open_string shut_string)
set_option linter.unusedVariables false
theorem own : ownKnob Tryd.prog.godebug = none := by kernel_rfl
theorem laidOut : laidOutB Tryd.prog = true := by kernel_rfl
theorem laid_met (os : Os) (args : Array Value) : laidMetH Tryd.prog Rows.normalIsRow.laid ((laidWorld os).forCall (fun _ _ => 0) ⟨#[], args, []⟩).memory :=
  (LaidIn.of_run (l := Rows.normalIsRow.laid) [2, 0, 1] 8 (by kernel_rfl) (by kernel_rfl) (by kernel_rfl) (by kernel_rfl)).met
set_option maxRecDepth 100000 in
theorem lifted (os : Os) (started : os.Started) (H : Type) (enc : TypeId × Value → H) :
    ReturnsInHanded {} Tryd.checked os 3 .any (fun w args => (Rows.normalIsSpec.pre enc Tryd.prog Tryd.f3 [] false w args ∧ laidMetH Tryd.prog Rows.normalIsRow.laid w) ∧ sizedMet enc Tryd.prog Tryd.f3 (OpenSpec.ofChange Rows.normalIsSpec) false w args) (Rows.normalIsSpec.post enc Tryd.prog Tryd.f3 false true false false) := by
  refine returnsInHanded_of_change_and (C := Tryd.checked) (X := (fun w _ => laidMetH Tryd.prog Rows.normalIsRow.laid w)) (fun _ _ _ hh h => h.of_heap hh) own started (by kernel_rfl) Tryd.func3
    (ChangeSpec.witness_at (enc := enc) (C := Tryd.checked) (os := os) (X := (fun w _ => laidMetH Tryd.prog Rows.normalIsRow.laid w)) false (laidWorld os) #[.slice none 0 0, .int .u8 0] 8 rfl (by kernel_rfl) (by kernel_rfl) (by kernel_rfl) (by kernel_rfl) (by kernel_rfl) (laid_met os _)) ?_
  intro W base args ds gs before hval0 hW _ _ hL _
  have hG : Glob W := glob_of_reads (Lib.laidMet.reads hL (.tail _ (.tail _ (.head _)))) (Lib.laidMet.reads hL (.head _)) (Lib.laidMet.reads hL (.tail _ (.head _)))
  have hval : ∀ (j : Nat) t v, Tryd.f3.params[j]? = some t → args[j]? = some v → Value.okWide Tryd.prog W .any base t v := hval0
  have hW' := hW
  obtain ⟨p, q, hA0, hV, rfl, hfz, hnd⟩ := hW
  have hA : DataW.TrodAll enc Tryd.prog W 0 (fun _ => true) true Tryd.f3.params.toList args.toList ds p := hA0
  rw [Tryd.params3] at hA hval
  obtain ⟨v0, vs0, d0, ds0, p0, q0, hargs, rfl, rfl, h0, r0⟩ := trodAll_cons hA
  obtain ⟨v1, vs1, d1, ds1, p1, q1, rfl, rfl, rfl, h1, r1⟩ := trodAll_cons r0
  obtain ⟨rfl, rfl, rfl⟩ := trodAll_nil r1
  obtain rfl : args = #[v0, v1] := by cases args; simp_all
  obtain ⟨rfl, rfl⟩ := trodVars_none hV
  obtain ⟨A0, n0, c0, rfl⟩ := okWide_slice Tryd.underlying22 (hval 0 22 v0 rfl rfl)
  have k0 := h0
  have lt0 : ∀ x ∈ p0, x.block < W.heap.size := by obtain ⟨m, hm⟩ := k0; exact DataW.trod_lt m _ _ _ hm
  obtain ⟨l0, z0, hv0⟩ : ∃ l, (Kd.slice 51 k51).K W l [Value.slice A0 n0 c0] ∧ (fun v_ => (v_.length ≤ maxLen ∧ ∀ x_ ∈ v_, V51 x_)) l := by
    obtain ⟨fuel, hf⟩ := h0
    exact (opens_slice Tryd.underlying22 (by kernel_rfl) opens51) enc W _ _ _ _ _ _ hf
  obtain ⟨A_, c_, e, hc0, hr0⟩ := z0
  simp only [List.cons.injEq, Value.slice.injEq, and_true] at e
  obtain ⟨rfl, rfl, rfl⟩ := e
  obtain ⟨a1, rfl, rfl, rfl, hv1⟩ := open_int Tryd.underlying5 (hval 1 5 v1 rfl rfl) h1
  obtain ⟨k, h⟩ := Pure.NormalIs l0 a1 hv0 hv1
  refine (epitomelaw05_NormalIs.calls k _ _ l0 a1 true W hG hr0 hc0 h).mono ?_
  rintro e W' ⟨rfl, hd⟩
  have bel : Below W.heap.size W W' := hd
  exact ⟨_, rfl, _, _, _, [], _, [], hW', trodAll_mk1 (shut_bool Tryd.underlying4 _), (trodAll_cons_mk (Below.trod laidOut (by kernel_rfl) (of_decide_eq_true (by kernel_rfl)) k0 bel lt0) (trodAll_cons_mk (shut_int Tryd.underlying5 hv1) trodAll_mk0)), rfl, bel.frame _, fun h => by cases h⟩
theorem over : Rows.normalIsRow.holds Tryd.pinned (OpenSpec.ofChange Rows.normalIsSpec) :=
  OpenClaim.holds_of_wide 3 Tryd.f3 rfl rfl rfl rfl rfl rfl rfl ⟨rfl, rfl, rfl, rfl, rfl⟩ rfl rfl rfl rfl rfl (by kernel_rfl) Tryd.func3 (by kernel_rfl)
    (of_decide_eq_true (by kernel_rfl)) (by unfold Func.isWrapper; first | (rw [if_pos (by decide +kernel)]; kernel_rfl) | (rw [if_neg (by decide +kernel)]; exact ⟨rfl, rfl⟩))
    (fun os started H enc _ => lifted os started H enc)
theorem card : Claim7.holds Tryd.pinned (.plain (OpenSpec.ofChange Rows.normalIsSpec)) Rows.normalIsCard :=
  Claim7.holds_tied_plain_at .later [] [.data, .data, .pinned] true (true, "b59fba76812983a2edbfeb7dc69721ef72231d0e5408923366ca0978bc32635f") false
    over (fun _ h => by cases h) (by kernel_rfl) (fun _ h => by cases h) normalIs_row_tie rfl ⟨rfl, rfl⟩ (by kernel_rfl) rfl
    (fun f fn hf hfn => by
      obtain rfl : f = 3 := Option.some.inj ((show Tryd.prog.funcNamed "epitome/epitomelaw05.NormalIs" = some 3 by kernel_rfl).symm.trans hf) |>.symm
      obtain rfl : fn = Tryd.f3 := (Option.some.inj (Tryd.func3.symm.trans hfn)).symm
      exact ⟨by kernel_rfl, fun j t ht => by
        rw [Tryd.params3] at ht
        match j, ht with
        | 0, ht =>
          obtain rfl : t = 22 := by simpa using ht.symm
          exact (show Tryd.prog.wantsStandIn 22 = false by kernel_rfl)
        | 1, ht =>
          obtain rfl : t = 5 := by simpa using ht.symm
          exact (show Tryd.prog.wantsStandIn 5 = false by kernel_rfl)
        | j + 2, ht => simp at ht⟩)
    (by kernel_rfl)
theorem proved : Rows.NormalIsCardSaid := card
end Go.Proofs.YtphbemkdhneklaaDoor.normalIs
namespace Go.Proofs.YtphbemkdhneklaaDoor
theorem normalIs_holds : Rows.NormalIsCardSaid := normalIs.proved
#print axioms normalIs_holds
end Go.Proofs.YtphbemkdhneklaaDoor
end
