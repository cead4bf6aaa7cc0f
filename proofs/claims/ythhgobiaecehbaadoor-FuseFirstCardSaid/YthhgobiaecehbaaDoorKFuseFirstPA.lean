import Derived.Test.YthhgobiaecehbaaDoorKFuseFirstA
import Derived.Test.YthhgobiaecehbaaDoorKGFuPA
import Derived.Below
import Derived.Deep.Draws
import Derived.Deep.AppendLies
import Derived.Maps.AppendAt
import Derived.OwnWalk
import Derived.Laws.BytesArg
import Derived.Laws.MakeOwn
import Derived.Laws.OwnMore
import Derived.Deep.OwnRows
import Derived.Tactics
import Derived.Lib.ConvBytes
import Derived.Laws.Slices
import Derived.WalkKit
import Derived.KernelRfl
import Derived.RowKit3
import Derived.Deep.LoopGhost
import Derived.Deep.QuietTactic
import Derived.BigQuiet
import Derived.WideLaws
import Derived.Deep.DeepCutAuto
import Derived.Deep.CutBlock
import Derived.Deep.RegionHeld3
import Derived.Laws.Rows
import Derived.Lib.AppendStr
import Derived.ArgAppend
import Derived.Laws.IdiomCopy
import Derived.RowKit
import Derived.OrdersHeld
import Derived.Laws.BitsLemmas
import Derived.Laws.StructEq
import Derived.Test.YthhgobiaecehbaaDoorProg
import Derived.Handy
import Derived.Shelf.Unicode.DecodeSlow
import Derived.Ground.NamesProg
import Derived.Shelf.Unicode.ValidAny
import Derived.Laws.RangeString
import Derived.Laws.RangeAny
import Derived.Lib.RuneCount
import Derived.Laws.IdiomStrings
import Derived.Laws.Cover4
import Derived.Great.BuildSlice
import Derived.ProofKit
import Derived.OpenShut
import Derived.ShutString
import Derived.ChangeOld
import Derived.SizedLaws
import Derived.Lib.ValidLaws
import Derived.Test.YthhgobiaecehbaaDoorRows
import Derived.Lib.LaidU8T
import Derived.Lib.LaidIn
import Derived.LaidLaws
import Derived.Test.YthhgobiaecehbaaDoorTie
import Derived.Test.YthhgobiaecehbaaDoorCards
import Derived.Carry
import Derived.ChangeSame
import Derived.ChangeVars
import Derived.JoinedOf
import Derived.SevenTiedAt
section
namespace Go.Proofs.YthhgobiaecehbaaDoor.F
open Go.RowKit Go.Proofs.YthhgobiaecehbaaDoorW.PrintWords Go.Proofs.YthhgobiaecehbaaDoorW.PrintLast Go.Proofs.YthhgobiaecehbaaDoorW.PrintMore
attribute [local go_sem] max2_int min2_int max_two min_two max_three min_three max_four min_four cell_setCell_isSome
set_option linter.unusedVariables false
set_option linter.unusedSimpArgs false
def epitomelaw10_FuseFirst.Pure : Prop := ∀ (l0 : List (List (S41))) (a1 : Int) (a2 : Int), (l0.length ≤ maxLen ∧ ∀ x_ ∈ l0, (x_.length ≤ maxLen ∧ ∀ x_x_ ∈ x_, V41 x_x_)) → (Lit.int .u8 a1).wf = true → (Lit.int .u8 a2).wf = true → ∃ k, epitomelaw10_FuseFirst.f k l0 a1 a2 = some true
end Go.Proofs.YthhgobiaecehbaaDoor.F
end
section
namespace Go.Proofs.YthhgobiaecehbaaDoor.F
open Go.RowKit Go.Proofs.YthhgobiaecehbaaDoorW.PrintWords Go.Proofs.YthhgobiaecehbaaDoorW.PrintLast Go.Proofs.YthhgobiaecehbaaDoorW.PrintMore
set_option linter.unusedVariables false
set_option linter.unusedSimpArgs false
theorem fuse_parts {w : List (List Un)} {n : Nat} (h : ChainOk n w) (k : Nat) :
    fuseU (List.replicate n .k) (exR w) = compU (fuseU (List.replicate n .k) (exR (w.take k))) (fuseU (List.replicate (endN n (w.take k)) .k) (exR (w.drop k))) ∧ ChainOk n (w.take k) ∧ ChainOk (endN n (w.take k)) (w.drop k) := by
  have h0 := h
  rw [← List.take_append_drop k w, chainOk_append] at h0
  obtain ⟨h1, h2⟩ := h0
  have s := fuse_sizes (w.take k) (List.replicate n .k) (by rw [keeps_out]; exact h1)
  rw [keeps_out] at s
  refine ⟨?_, h1, h2⟩
  conv => lhs; rw [← List.take_append_drop k w, exR_append, fuse_append]
  have := fuse_keep (fuseU (List.replicate n .k) (exR (w.take k))) (w.drop k) (by rw [s.2]; exact h2)
  rw [s.2] at this
  exact this
theorem rowsS_take (w : List (List Un)) (k : Nat) : (rowsS w).take k = rowsS (w.take k) := by unfold rowsS; rw [List.map_take]
theorem rowsS_drop (w : List (List Un)) (k : Nat) : (rowsS w).drop k = rowsS (w.drop k) := by unfold rowsS; rw [List.map_drop]
end Go.Proofs.YthhgobiaecehbaaDoor.F
end
section
namespace Go.Proofs.YthhgobiaecehbaaDoor.F
open Go.RowKit Go.Proofs.YthhgobiaecehbaaDoorW.PrintWords Go.Proofs.YthhgobiaecehbaaDoorW.PrintLast Go.Proofs.YthhgobiaecehbaaDoorW.PrintMore
set_option linter.unusedVariables false
set_option linter.unusedSimpArgs false
theorem fuse_pre : ∀ (w : List (List Un)) (x : List U) (rest : List (List Sp)) {r : List Sp × Int}, RunesU x → cinU x ≤ 1048576 → coutU x ≤ 1048576 → ChainG (coutU x) w →
    Ev (fun k => fuseL k ((canon (fuseU x (exR w))).map Un.sp) rest) r → Ev (fun k => fuseL k ((canon x).map Un.sp) (rowsS w ++ rest)) r
  | [], x, rest, r, hr, _, h2, _, h => h
  | us :: w, x, rest, r, hr, h1, h2, ⟨hu, hi, ho, hc⟩, h => by
    have hcu := cinU_ex us
    have hou := coutU_ex us
    obtain ⟨s1, s2⟩ := comp_sizes x (exU us) (by omega)
    have ci := canon_in x
    have co := canon_out x
    have e := compose_is (canon_ok hr h1 (by omega)) hu (by omega) (by omega) (by omega)
    rw [ex_canon] at e
    have s3 : coutU (compU x (exU us)) = (us.map Un.cout).sum := by rw [s2, hou]
    have e2 := fuse_pre w (compU x (exU us)) rest (comp_runes _ _ hr (runesU_ex us hu.ok)) (by omega) (by omega) (by rw [s3]; exact hc) h
    rw [show rowsS (us :: w) ++ rest = us.map Un.sp :: (rowsS w ++ rest) from rfl]
    show Ev (fun k => (compose_Of.f k ((canon x).map Un.sp) (us.map Un.sp)).bind fun z => if z.2 = 0 then fuseL k z.1 (rowsS w ++ rest) else some ([], z.2)) _
    exact Ev.bind e (ev_if_pos rfl e2)
theorem chainC_pre : ∀ (w : List (List Un)) (n : Nat) (rest : List (List Sp)) {r : Int × Int}, n ≤ 1048576 → ChainG n w →
    Ev (fun k => fuseC k (endN n w : Int) rest) r → Ev (fun k => fuseC k (n : Int) (rowsS w ++ rest)) r
  | [], n, rest, r, _, _, h => h
  | us :: w, n, rest, r, hn, ⟨hu, hi, ho, hc⟩, h => by
    have ih := chainC_pre w _ rest ho hc h
    have e : Ev (fun k => fuse_next.f k (n : Int) (us.map Un.sp)) ((((us.map Un.cout).sum : Nat) : Int), 0) := by
      unfold fuse_next.f
      exact Ev.bind (opMay_is hu) (ev_if_pos rfl (Ev.bind (opIn_is hu) (ev_if_pos (by omega) (Ev.bind (opOut_is hu) (Ev.now _)))))
    rw [show rowsS (us :: w) ++ rest = us.map Un.sp :: (rowsS w ++ rest) from rfl]
    show Ev (fun k => (fuse_next.f k (n : Int) (us.map Un.sp)).bind fun z => if z.2 = 0 then fuseC k z.1 (rowsS w ++ rest) else some (0, z.2)) _
    exact Ev.bind e (ev_if_pos rfl ih)
theorem fuseOf_pre {w : List (List Un)} {n : Nat} {rest : List (List Sp)} {r : List Sp × Int} (h : ChainG n w) (hn : n ≤ 1048576)
    (hr : Ev (fun k => fuseL k ((canon (fuseU (List.replicate n .k) (exR w))).map Un.sp) rest) r) : Ev (fun k => fuse_Of.f k (n : Int) (rowsS w ++ rest)) r := by
  have c1 := keeps_in n
  have c2 := keeps_out n
  have e := fuse_pre w (List.replicate n .k) rest (keeps_runes n) (by omega) (by omega) (by rw [c2]; exact h) hr
  rw [canon_keeps] at e
  unfold fuse_Of.f
  exact Ev.bind (opKeep_is n (by omega)) (ev_if_pos rfl e)
theorem chainOf_pre {w : List (List Un)} {n : Nat} {rest : List (List Sp)} {r : Int × Int} (h : ChainG n w) (hn : n ≤ 1048576)
    (hr : Ev (fun k => fuseC k (endN n w : Int) rest) r) : Ev (fun k => fuse_Chain.f k (n : Int) (rowsS w ++ rest)) r := by
  unfold fuse_Chain.f
  exact Ev.bind (opKeep_is n hn) (ev_if_pos rfl (chainC_pre w n rest hn h hr))
theorem mayNone : Ev (fun k => op_May.f k [(⟨0, 0, ⟨#[]⟩⟩ : Sp)]) 1 := Ev.of (fun k => op_May.mono _ k) (k := 20) (by decide +kernel)
theorem next_odd {n : Nat} {us : List Un} (hu : Ok us) (h : (us.map Un.cin).sum ≠ n) : Ev (fun k => fuse_next.f k (n : Int) (us.map Un.sp)) (0, 5) := by
  unfold fuse_next.f
  exact Ev.bind (opMay_is hu) (ev_if_pos rfl (Ev.bind (opIn_is hu) (ev_if_neg (by omega) (Ev.now _))))
theorem fuseL_odd {x us : List Un} {rest : List (List Sp)} (hx : Ok x) (hu : Ok us) (h : (x.map Un.cout).sum ≠ (us.map Un.cin).sum) : Ev (fun k => fuseL k (x.map Un.sp) (us.map Un.sp :: rest)) ([], 5) := by
  show Ev (fun k => (compose_Of.f k (x.map Un.sp) (us.map Un.sp)).bind fun z => if z.2 = 0 then fuseL k z.1 rest else some ([], z.2)) _
  exact Ev.bind (composeOdd_is hx hu h) (ev_if_neg (by decide) (Ev.now _))
theorem fuseL_none {x : List Un} {rest : List (List Sp)} (hx : Ok x) : Ev (fun k => fuseL k (x.map Un.sp) ([(⟨0, 0, ⟨#[]⟩⟩ : Sp)] :: rest)) ([], 1) := by
  show Ev (fun k => (compose_Of.f k (x.map Un.sp) [(⟨0, 0, ⟨#[]⟩⟩ : Sp)]).bind fun z => if z.2 = 0 then fuseL k z.1 rest else some ([], z.2)) _
  refine Ev.bind (a := ([], 1)) ?_ (ev_if_neg (by decide) (Ev.now _))
  unfold compose_Of.f
  exact Ev.bind (opMay_is hx) (ev_if_pos rfl (Ev.bind mayNone (ev_if_neg (by decide) (Ev.now _))))
theorem fuseC_odd {n : Nat} {us : List Un} {rest : List (List Sp)} (hu : Ok us) (h : (us.map Un.cin).sum ≠ n) : Ev (fun k => fuseC k (n : Int) (us.map Un.sp :: rest)) (0, 5) := by
  show Ev (fun k => (fuse_next.f k (n : Int) (us.map Un.sp)).bind fun z => if z.2 = 0 then fuseC k z.1 rest else some (0, z.2)) _
  exact Ev.bind (next_odd hu h) (ev_if_neg (by decide) (Ev.now _))
end Go.Proofs.YthhgobiaecehbaaDoor.F
end
section
namespace Go.Proofs.YthhgobiaecehbaaDoor.F
open Go.RowKit Go.Proofs.YthhgobiaecehbaaDoorW.PrintWords Go.Proofs.YthhgobiaecehbaaDoorW.PrintLast Go.Proofs.YthhgobiaecehbaaDoorW.PrintMore
set_option linter.unusedVariables false
set_option linter.unusedSimpArgs false
theorem Pure.FuseFirst : epitomelaw10_FuseFirst.Pure := by
  intro l0 a b h0 h1 h2
  apply Ev.rounds
  obtain ⟨n, hn, en⟩ := rem64 a h1
  have b2 := wf_u8 h2
  obtain ⟨w, hcw, hc, hwl⟩ := chain_is l0 h0.1 h0.2 n (by omega)
  obtain ⟨kk, hkk, ek⟩ := cut_place b w.length b2.1
  have ew : wrap64 b = b := w64 (by omega) (by omega)
  have e1 : wrap64 (((rowsS w).length : Int) + 1) = ((w.length + 1 : Nat) : Int) := by rw [rowsS_length, w64_succ _ (by omega)]
  obtain ⟨eq, hct, hcd⟩ := fuse_parts hc kk
  have lt : (w.take kk).length ≤ 20 := by rw [List.length_take]; omega
  have ld : (w.drop kk).length ≤ 20 := by rw [List.length_drop]; omega
  have mle := endN_le (w.take kk) n hct
  have gA := chainG_of (w.take kk) n hct (by omega)
  obtain ⟨eA, rA, iA, oA, bA⟩ := fuseG_is gA (by omega)
  have okA := fuseG_ok gA (by omega)
  have oa := canon_out (fuseU (List.replicate n .k) (exR (w.take kk)))
  have okO : Ok [Un.keep (endN n (w.take kk) + 1)] := ⟨by intro u hu; simp at hu; subst hu; trivial, by simp, by simp [Un.cin]; omega, by simp [Un.cout]; omega⟩
  have eo : [(⟨1, wrap64 ((endN n (w.take kk) : Int) + 1), (⟨#[]⟩ : ByteArray)⟩ : Sp)] = [Un.keep (endN n (w.take kk) + 1)].map Un.sp := by rw [w64_succ _ (by omega)]; rfl
  have hne : ((canon (fuseU (List.replicate n .k) (exR (w.take kk)))).map Un.cout).sum ≠ ([Un.keep (endN n (w.take kk) + 1)].map Un.cin).sum := by rw [oa, oA]; simp [Un.cin]
  have hne2 : ([Un.keep (endN n (w.take kk) + 1)].map Un.cin).sum ≠ endN n (w.take kk) := by simp [Un.cin]
  have lw := rowsS_length w
  have lwt := rowsS_length (w.take kk)
  have lwd := rowsS_length (w.drop kk)
  unfold epitomelaw10_FuseFirst.f
  rw [en]
  refine Ev.bind shown10 (Ev.bind hcw ?_)
  simp only [e1, ew, ek, Int.toNat_natCast, rowsS_take]
  refine ev_if_neg (by omega) (ev_if_pos (by omega) (ev_if_pos (by omega) (Ev.bind (chainC_is gA (by omega)) (ev_if_pos trivial ?_))))
  refine Ev.step (f := fun k => (fuse_Of.f k (n : Int) (rowsS (w.take kk) ++ ([Un.keep (endN n (w.take kk) + 1)].map Un.sp :: [(⟨0, 0, ⟨#[]⟩⟩ : Sp)] :: rowsS (w.drop kk)))).bind fun bt160 => (fuse_Chain.f k (n : Int) (rowsS (w.take kk) ++ ([Un.keep (endN n (w.take kk) + 1)].map Un.sp :: [(⟨0, 0, ⟨#[]⟩⟩ : Sp)] :: rowsS (w.drop kk)))).bind fun bt164 => (fuse_Of.f k (n : Int) (rowsS (w.take kk) ++ [[(⟨0, 0, ⟨#[]⟩⟩ : Sp)]])).bind fun bt166 => if bt160.2 = 5 then (if bt164.2 = 5 then (if bt166.2 = 1 then (if (bt160.1.length : Int) = 0 then some ((bt166.1.length : Int) == 0) else some false) else some false) else some false) else some false) (fun k => ?_) ?_
  · rw [epitomelaw10_FuseFirst.j0, if_neg (by simp)]
    simp only [Option.bind_some, Int.toNat_natCast, rowsS_take, rowsS_drop, List.nil_append, eo]
    rw [if_pos (by omega), if_pos (by omega), if_pos (by simp only [List.length_nil]; omega), if_pos (by omega), if_pos (by simp only [List.length_append, List.length_singleton]; omega), if_pos (by simp only [List.length_append, List.length_singleton]; omega), if_pos (by simp only [List.length_nil]; omega), if_pos (by omega)]
    simp only [List.append_assoc, List.singleton_append, List.cons_append, List.nil_append]
  · refine Ev.bind (fuseOf_pre gA (by omega) (fuseL_odd okA okO hne)) (Ev.bind (chainOf_pre gA (by omega) (fuseC_odd okO hne2)) (Ev.bind (fuseOf_pre gA (by omega) (fuseL_none okA)) ?_))
    exact ev_if_pos rfl (ev_if_pos rfl (ev_if_pos rfl (ev_if_pos rfl (Ev.now true))))
end Go.Proofs.YthhgobiaecehbaaDoor.F
end
section
namespace Go.Proofs.YthhgobiaecehbaaDoor.fuseFirst
open Go.ChangeShapes Go.WideShapes Go.ChangeAt Go.RowKit Go.Proofs.YthhgobiaecehbaaDoor.F
open Go.Proofs.YthhgobiaecehbaaDoorW.PrintWords
open Go.ChangeMaps (open_string shut_string)
set_option linter.unusedVariables false
theorem own : ownKnob Tryd.prog.godebug = none := by kernel_rfl
theorem laidOut : laidOutB Tryd.prog = true := by kernel_rfl
theorem laid_met (os : Os) (args : Array Value) : laidMetH Tryd.prog Rows.fuseFirstRow.laid ((laidWorld os).forCall (fun _ _ => 0) ⟨#[], args, []⟩).memory :=
  (LaidIn.of_run (l := Rows.fuseFirstRow.laid) [2, 0, 1] 8 (by kernel_rfl) (by kernel_rfl) (by kernel_rfl) (by kernel_rfl)).met
set_option maxRecDepth 100000 in
theorem lifted (os : Os) (started : os.Started) (H : Type) (enc : TypeId × Value → H) :
    ReturnsInHanded {} Tryd.checked os 7 .any (fun w args => (Rows.fuseFirstSpec.pre enc Tryd.prog Tryd.f7 [] false w args ∧ laidMetH Tryd.prog Rows.fuseFirstRow.laid w) ∧ sizedMet enc Tryd.prog Tryd.f7 (OpenSpec.ofChange Rows.fuseFirstSpec) false w args) (Rows.fuseFirstSpec.post enc Tryd.prog Tryd.f7 false true false false) := by
  refine returnsInHanded_of_change_and (C := Tryd.checked) (X := (fun w _ => laidMetH Tryd.prog Rows.fuseFirstRow.laid w)) (fun _ _ _ hh h => h.of_heap hh) own started (by kernel_rfl) Tryd.func7
    (ChangeSpec.witness_at (enc := enc) (C := Tryd.checked) (os := os) (X := (fun w _ => laidMetH Tryd.prog Rows.fuseFirstRow.laid w)) false (laidWorld os) #[.slice none 0 0, .int .u8 0, .int .u8 0] 8 rfl (by kernel_rfl) (by kernel_rfl) (by kernel_rfl) (by kernel_rfl) (by kernel_rfl) (laid_met os _)) ?_
  intro W base args ds gs before hval0 hW _ _ hL _
  have hG : Glob W := glob_of_reads (Lib.laidMet.reads hL (.tail _ (.tail _ (.head _)))) (Lib.laidMet.reads hL (.head _)) (Lib.laidMet.reads hL (.tail _ (.head _)))
  have hval : ∀ (j : Nat) t v, Tryd.f7.params[j]? = some t → args[j]? = some v → Value.okWide Tryd.prog W .any base t v := hval0
  have hW' := hW
  obtain ⟨p, q, hA0, hV, rfl, hfz, hnd⟩ := hW
  have hA : DataW.TrodAll enc Tryd.prog W 0 (fun _ => true) true Tryd.f7.params.toList args.toList ds p := hA0
  rw [Tryd.params7] at hA hval
  obtain ⟨v0, vs0, d0, ds0, p0, q0, hargs, rfl, rfl, h0, r0⟩ := trodAll_cons hA
  obtain ⟨v1, vs1, d1, ds1, p1, q1, rfl, rfl, rfl, h1, r1⟩ := trodAll_cons r0
  obtain ⟨v2, vs2, d2, ds2, p2, q2, rfl, rfl, rfl, h2, r2⟩ := trodAll_cons r1
  obtain ⟨rfl, rfl, rfl⟩ := trodAll_nil r2
  obtain rfl : args = #[v0, v1, v2] := by cases args; simp_all
  obtain ⟨rfl, rfl⟩ := trodVars_none hV
  obtain ⟨A0, n0, c0, rfl⟩ := okWide_slice Tryd.underlying22 (hval 0 22 v0 rfl rfl)
  have k0 := h0
  have lt0 : ∀ x ∈ p0, x.block < W.heap.size := by obtain ⟨m, hm⟩ := k0; exact DataW.trod_lt m _ _ _ hm
  obtain ⟨l0, z0, hv0⟩ : ∃ l, (Kd.slice 24 (Kd.slice 41 k41)).K W l [Value.slice A0 n0 c0] ∧ (fun v_ => (v_.length ≤ maxLen ∧ ∀ x_ ∈ v_, (x_.length ≤ maxLen ∧ ∀ x_x_ ∈ x_, V41 x_x_))) l := by
    obtain ⟨fuel, hf⟩ := h0
    exact (opens_slice Tryd.underlying22 (by kernel_rfl) (opens_slice Tryd.underlying24 (by kernel_rfl) opens41)) enc W _ _ _ _ _ _ hf
  obtain ⟨A_, c_, e, hc0, hr0⟩ := z0
  simp only [List.cons.injEq, Value.slice.injEq, and_true] at e
  obtain ⟨rfl, rfl, rfl⟩ := e
  obtain ⟨a1, rfl, rfl, rfl, hv1⟩ := open_int Tryd.underlying5 (hval 1 5 v1 rfl rfl) h1
  obtain ⟨a2, rfl, rfl, rfl, hv2⟩ := open_int Tryd.underlying5 (hval 2 5 v2 rfl rfl) h2
  obtain ⟨k, h⟩ := Pure.FuseFirst l0 a1 a2 hv0 hv1 hv2
  refine (epitomelaw10_FuseFirst.calls k _ _ l0 a1 a2 true ⟨rfl⟩ W hG hr0 hc0 h).mono ?_
  rintro e W' ⟨rfl, hd⟩
  have bel : Below W.heap.size W W' := hd
  exact ⟨_, rfl, _, _, _, [], _, [], hW', trodAll_mk1 (shut_bool Tryd.underlying4 _), (trodAll_cons_mk (Below.trod laidOut (by kernel_rfl) (of_decide_eq_true (by kernel_rfl)) k0 bel lt0) (trodAll_cons_mk (shut_int Tryd.underlying5 hv1) (trodAll_cons_mk (shut_int Tryd.underlying5 hv2) trodAll_mk0))), rfl, bel.frame _, fun h => by cases h⟩
theorem over : Rows.fuseFirstRow.holds Tryd.pinned (OpenSpec.ofChange Rows.fuseFirstSpec) :=
  OpenClaim.holds_of_wide 7 Tryd.f7 rfl rfl rfl rfl rfl rfl rfl ⟨rfl, rfl, rfl, rfl, rfl⟩ rfl rfl rfl rfl rfl (by kernel_rfl) Tryd.func7 (by kernel_rfl)
    (of_decide_eq_true (by kernel_rfl)) (by unfold Func.isWrapper; first | (rw [if_pos (by decide +kernel)]; kernel_rfl) | (rw [if_neg (by decide +kernel)]; exact ⟨rfl, rfl⟩))
    (fun os started H enc _ => lifted os started H enc)
theorem card : Claim7.holds Tryd.pinned (.plain (OpenSpec.ofChange Rows.fuseFirstSpec)) Rows.fuseFirstCard :=
  Claim7.holds_tied_plain_at .later [] [.data, .data, .pinned] true (true, "8fb316f5ff7554be16da48bf4668a02c6c874877236834196521f490ba2e0f73") false
    over (fun _ h => by cases h) (by kernel_rfl) (fun _ h => by cases h) fuseFirst_row_tie rfl ⟨rfl, rfl⟩ (by kernel_rfl) rfl
    (fun f fn hf hfn => by
      obtain rfl : f = 7 := Option.some.inj ((show Tryd.prog.funcNamed "epitome/epitomelaw10.FuseFirst" = some 7 by kernel_rfl).symm.trans hf) |>.symm
      obtain rfl : fn = Tryd.f7 := (Option.some.inj (Tryd.func7.symm.trans hfn)).symm
      exact ⟨by kernel_rfl, fun j t ht => by
        rw [Tryd.params7] at ht
        match j, ht with
        | 0, ht =>
          obtain rfl : t = 22 := by simpa using ht.symm
          exact (show Tryd.prog.wantsStandIn 22 = false by kernel_rfl)
        | 1, ht =>
          obtain rfl : t = 5 := by simpa using ht.symm
          exact (show Tryd.prog.wantsStandIn 5 = false by kernel_rfl)
        | 2, ht =>
          obtain rfl : t = 5 := by simpa using ht.symm
          exact (show Tryd.prog.wantsStandIn 5 = false by kernel_rfl)
        | j + 3, ht => simp at ht⟩)
    (by kernel_rfl)
theorem proved : Rows.FuseFirstCardSaid := card
end Go.Proofs.YthhgobiaecehbaaDoor.fuseFirst
namespace Go.Proofs.YthhgobiaecehbaaDoor
theorem fuseFirst_holds : Rows.FuseFirstCardSaid := fuseFirst.proved
#print axioms fuseFirst_holds
end Go.Proofs.YthhgobiaecehbaaDoor
end
