import Derived.Test.YtnfaahacakliiaaDoorKOverDropsA
import Derived.Test.YtnfaahacakliiaaDoorKOPA
import Derived.Below
import Derived.Deep.Draws
import Derived.Deep.AppendLies
import Derived.Maps.AppendAt
import Derived.OwnWalk
import Derived.Laws.BytesArg
import Derived.Laws.MakeOwn
import Derived.Laws.OwnMore
import Derived.Deep.OwnRows
import Derived.Tactics
import Derived.Lib.ConvBytes
import Derived.Laws.Slices
import Derived.WalkKit
import Derived.KernelRfl
import Derived.RowKit3
import Derived.Deep.LoopGhost
import Derived.Deep.QuietTactic
import Derived.BigQuiet
import Derived.WideLaws
import Derived.Deep.DeepCutAuto
import Derived.Deep.CutBlock
import Derived.Deep.RegionHeld3
import Derived.Laws.Rows
import Derived.Lib.AppendStr
import Derived.ArgAppend
import Derived.Laws.IdiomCopy
import Derived.RowKit
import Derived.OrdersHeld
import Derived.Laws.BitsLemmas
import Derived.Laws.StructEq
import Derived.Test.YtnfaahacakliiaaDoorProg
import Derived.Handy
import Derived.Shelf.Unicode.DecodeSlow
import Derived.Ground.NamesProg
import Derived.Shelf.Unicode.ValidAny
import Derived.Laws.RangeString
import Derived.Laws.RangeAny
import Derived.Lib.RuneCount
import Derived.Laws.IdiomStrings
import Derived.Laws.Cover4
import Derived.Great.BuildSlice
import Derived.Defers
import Derived.ProofKit
import Derived.OpenShut
import Derived.ShutString
import Derived.ChangeOld
import Derived.SizedLaws
import Derived.Lib.ValidLaws
import Derived.Test.YtnfaahacakliiaaDoorRows
import Derived.Lib.LaidU8T
import Derived.Lib.LaidIn
import Derived.LaidLaws
import Derived.Test.YtnfaahacakliiaaDoorTie
import Derived.Test.YtnfaahacakliiaaDoorCards
import Derived.Carry
import Derived.ChangeSame
import Derived.ChangeVars
import Derived.JoinedOf
import Derived.SevenTiedAt
section
namespace Go.Proofs.YtnfaahacakliiaaDoor.F
open Go.RowKit Go.Proofs.YtnfaahacakliiaaDoorW.PrintWords Go.Proofs.YtnfaahacakliiaaDoorW.PrintLast Go.Proofs.YtnfaahacakliiaaDoorW.PrintMore
attribute [local go_sem] max2_int min2_int max_two min_two max_three min_three max_four min_four cell_setCell_isSome
set_option linter.unusedVariables false
set_option linter.unusedSimpArgs false
def epitomelaw11_OverDrops.Pure : Prop := ∀ (l0 : List (S32)) (a1 : Int), (l0.length ≤ maxLen ∧ ∀ x_ ∈ l0, V32 x_) → (Lit.int .u8 a1).wf = true → ∃ k, epitomelaw11_OverDrops.f k l0 a1 = some true
end Go.Proofs.YtnfaahacakliiaaDoor.F
end
section
namespace Go.Proofs.YtnfaahacakliiaaDoor.F
open Go.RowKit Go.Proofs.YtnfaahacakliiaaDoorW.PrintWords Go.Proofs.YtnfaahacakliiaaDoorW.PrintLast Go.Proofs.YtnfaahacakliiaaDoorW.PrintMore
set_option linter.unusedVariables false
set_option linter.unusedSimpArgs false
def marksU : List U → List Bool
  | [] => []
  | .p _ :: x => marksU x
  | .k :: x => false :: marksU x
  | .d :: x => true :: marksU x
theorem over_self (a s : List U) (h : marksU a = marksU s) : dropsU (overU a s) = 0 := by
  induction a, s using overU.induct with
  | case1 a r s ih => rw [over_p]; simp only [dropsU]; exact ih (by simpa [marksU] using h)
  | case2 r a ih => rw [overU]; simp only [dropsU]; exact ih (by simpa [marksU] using h)
  | case3 r a s ih => rw [overU]; simp only [dropsU]; exact ih (by simpa [marksU] using h)
  | case4 r a s ih => rw [overU]; simp only [dropsU]; exact ih (by simpa [marksU] using h)
  | case5 a s ih => rw [overU]; simp only [dropsU]; exact ih (by simpa [marksU] using h)
  | case6 a s ih => simp [marksU] at h
  | case7 a s ih => simp [marksU] at h
  | case8 a s ih => rw [overU]; exact ih (by simpa [marksU] using h)
  | _ => rw [overU]; rfl
theorem dropsU_app (a b : List U) : dropsU (a ++ b) = dropsU a + dropsU b := by
  induction a with
  | nil => simp [dropsU]
  | cons u a ih => cases u <;> simp only [List.cons_append, dropsU, ih] <;> omega
theorem dropsU_d (n : Nat) : dropsU (List.replicate n U.d) = n := by
  induction n with
  | zero => rfl
  | succ n ih => rw [List.replicate_succ]; simp only [dropsU, ih]
theorem noDrop : ∀ us : List Un, FullL us → dropsU (exU us) = 0 → ∀ u ∈ us, u.sp.f0 ≠ 3
  | [], _, _, u, hu => by cases hu
  | v :: us, hf, hd, u, hu => by
    rw [exU_cons, dropsU_app] at hd
    rcases List.mem_cons.1 hu with rfl | hu
    · cases u with
      | keep n => simp [Un.sp]
      | put l => simp [Un.sp]
      | drop n =>
        have h1 := hf.cons.1
        simp [fullU] at h1
        rw [show (Un.drop n).ex = List.replicate n .d from rfl, dropsU_d] at hd
        omega
    · exact noDrop us hf.cons.2 (by omega) u hu
end Go.Proofs.YtnfaahacakliiaaDoor.F
end
section
namespace Go.Proofs.YtnfaahacakliiaaDoor.F
open Go.RowKit Go.Proofs.YtnfaahacakliiaaDoorW.PrintWords Go.Proofs.YtnfaahacakliiaaDoorW.PrintLast Go.Proofs.YtnfaahacakliiaaDoorW.PrintMore
set_option linter.unusedVariables false
set_option linter.unusedSimpArgs false
theorem rd_mem {us : List Un} {i : Int} (h0 : 0 ≤ i) (h : i < ((us.map Un.sp).length : Int)) : ∃ u ∈ us, rd_T32 (us.map Un.sp) i = u.sp := by
  obtain ⟨m, rfl⟩ := Int.eq_ofNat_of_zero_le h0
  have hm : m < us.length := by simpa using h
  refine ⟨us[m], List.getElem_mem _, ?_⟩
  unfold rd_T32
  rw [Int.toNat_natCast, List.getD_eq_getElem?_getD, List.getElem?_map, List.getElem?_eq_getElem hm]
  rfl
theorem Pure.OverDrops : epitomelaw11_OverDrops.Pure := by
  intro l0 a h0 h1
  apply Ev.rounds
  obtain ⟨n, hn, en⟩ := rem64 a h1
  obtain ⟨us, hf0, f0⟩ := fitB l0 h0.1 h0.2 n (by omega)
  have c0 := f0.cout
  have o0 := f0.coutU
  have n0 := f0.cin
  have i0 := f0.cinU
  have p0 := puts_le (exU us)
  have uv := overOk f0.runes (y := exU us) rfl (by omega) (by omega)
  have s1 := over_sizes (exU us) (exU us) rfl
  have nd := noDrop _ (canon_full (overU (exU us) (exU us))) (by rw [ex_canon]; exact over_self _ _ rfl)
  unfold epitomelaw11_OverDrops.f
  rw [en]
  refine Ev.bind shown11 (Ev.bind hf0 (Ev.bind (over_is f0.ok f0.ok (by omega) (by omega) rfl) ?_))
  obtain ⟨ws, hws⟩ : ∃ ws, canon (overU (exU us) (exU us)) = ws := ⟨_, rfl⟩
  have hx : exU ws = overU (exU us) (exU us) := by rw [← hws, ex_canon]
  rw [hws] at uv nd ⊢
  refine puts_up f0.ok (F := fun k c i => epitomelaw11_OverDrops.l0 k true (us.map Un.sp) (ws.map Un.sp) 0 c i) (E := fun k c => epitomelaw11_OverDrops.l1 k true (ws.map Un.sp) 0 c 0) (fun k c i => by rw [epitomelaw11_OverDrops.l0]) 0 (by omega) ?_
  refine puts_down uv (F := fun k c i => epitomelaw11_OverDrops.l1 k true (ws.map Un.sp) 0 c i) (E := fun k c => some (c == 0)) (fun k c i => ?_) _ (by omega) ?_
  · rw [epitomelaw11_OverDrops.l1]
    by_cases hi : i < ((ws.map Un.sp).length : Int)
    · by_cases h0 : 0 ≤ i
      · obtain ⟨u, hu, e⟩ := rd_mem h0 hi
        have hne : ¬ (rd_T32 (ws.map Un.sp) i).f0 = 3 := by rw [e]; exact nd u hu
        simp only [if_neg hne, if_pos rfl, if_true]
      · simp only [if_pos hi, if_neg h0]
    · simp only [if_neg hi, if_true]
  · rw [hx, s1.2, show ((0 : Int) + ((putsU (exU us) : Nat) : Int) - ((putsU (exU us) : Nat) : Int) == 0) = true by simp]
    exact Ev.now true
end Go.Proofs.YtnfaahacakliiaaDoor.F
end
section
namespace Go.Proofs.YtnfaahacakliiaaDoor.overDrops
open Go.ChangeShapes Go.WideShapes Go.ChangeAt Go.RowKit Go.Proofs.YtnfaahacakliiaaDoor.F
open Go.Proofs.YtnfaahacakliiaaDoorW.PrintWords
open Go.ChangeMaps (open_string shut_string)
set_option linter.unusedVariables false
theorem own : ownKnob Tryd.prog.godebug = none := by kernel_rfl
theorem laidOut : laidOutB Tryd.prog = true := by kernel_rfl
theorem laid_met (os : Os) (args : Array Value) : laidMetH Tryd.prog Rows.overDropsRow.laid ((laidWorld os).forCall (fun _ _ => 0) ⟨#[], args, []⟩).memory :=
  (LaidIn.of_run (l := Rows.overDropsRow.laid) [2, 0, 1] 8 (by kernel_rfl) (by kernel_rfl) (by kernel_rfl) (by kernel_rfl)).met
set_option maxRecDepth 100000 in
theorem lifted (os : Os) (started : os.Started) (H : Type) (enc : TypeId × Value → H) :
    ReturnsInHanded {} Tryd.checked os 4 .any (fun w args => (Rows.overDropsSpec.pre enc Tryd.prog Tryd.f4 [] false w args ∧ laidMetH Tryd.prog Rows.overDropsRow.laid w) ∧ sizedMet enc Tryd.prog Tryd.f4 (OpenSpec.ofChange Rows.overDropsSpec) false w args) (Rows.overDropsSpec.post enc Tryd.prog Tryd.f4 false true false false) := by
  refine returnsInHanded_of_change_and (C := Tryd.checked) (X := (fun w _ => laidMetH Tryd.prog Rows.overDropsRow.laid w)) (fun _ _ _ hh h => h.of_heap hh) own started (by kernel_rfl) Tryd.func4
    (ChangeSpec.witness_at (enc := enc) (C := Tryd.checked) (os := os) (X := (fun w _ => laidMetH Tryd.prog Rows.overDropsRow.laid w)) false (laidWorld os) #[.slice none 0 0, .int .u8 0] 8 rfl (by kernel_rfl) (by kernel_rfl) (by kernel_rfl) (by kernel_rfl) (by kernel_rfl) (laid_met os _)) ?_
  intro W base args ds gs before hval0 hW _ _ hL _
  have hG : Glob W := glob_of_reads (Lib.laidMet.reads hL (.tail _ (.tail _ (.head _)))) (Lib.laidMet.reads hL (.head _)) (Lib.laidMet.reads hL (.tail _ (.head _)))
  have hval : ∀ (j : Nat) t v, Tryd.f4.params[j]? = some t → args[j]? = some v → Value.okWide Tryd.prog W .any base t v := hval0
  have hW' := hW
  obtain ⟨p, q, hA0, hV, rfl, hfz, hnd⟩ := hW
  have hA : DataW.TrodAll enc Tryd.prog W 0 (fun _ => true) true Tryd.f4.params.toList args.toList ds p := hA0
  rw [Tryd.params4] at hA hval
  obtain ⟨v0, vs0, d0, ds0, p0, q0, hargs, rfl, rfl, h0, r0⟩ := trodAll_cons hA
  obtain ⟨v1, vs1, d1, ds1, p1, q1, rfl, rfl, rfl, h1, r1⟩ := trodAll_cons r0
  obtain ⟨rfl, rfl, rfl⟩ := trodAll_nil r1
  obtain rfl : args = #[v0, v1] := by cases args; simp_all
  obtain ⟨rfl, rfl⟩ := trodVars_none hV
  obtain ⟨A0, n0, c0, rfl⟩ := okWide_slice Tryd.underlying22 (hval 0 22 v0 rfl rfl)
  have k0 := h0
  have lt0 : ∀ x ∈ p0, x.block < W.heap.size := by obtain ⟨m, hm⟩ := k0; exact DataW.trod_lt m _ _ _ hm
  obtain ⟨l0, z0, hv0⟩ : ∃ l, (Kd.slice 32 k32).K W l [Value.slice A0 n0 c0] ∧ (fun v_ => (v_.length ≤ maxLen ∧ ∀ x_ ∈ v_, V32 x_)) l := by
    obtain ⟨fuel, hf⟩ := h0
    exact (opens_slice Tryd.underlying22 (by kernel_rfl) opens32) enc W _ _ _ _ _ _ hf
  obtain ⟨A_, c_, e, hc0, hr0⟩ := z0
  simp only [List.cons.injEq, Value.slice.injEq, and_true] at e
  obtain ⟨rfl, rfl, rfl⟩ := e
  obtain ⟨a1, rfl, rfl, rfl, hv1⟩ := open_int Tryd.underlying5 (hval 1 5 v1 rfl rfl) h1
  obtain ⟨k, h⟩ := Pure.OverDrops l0 a1 hv0 hv1
  refine (epitomelaw11_OverDrops.calls k _ _ l0 a1 true W hG hr0 hc0 h).mono ?_
  rintro e W' ⟨rfl, hd⟩
  have bel : Below W.heap.size W W' := hd
  exact ⟨_, rfl, _, _, _, [], _, [], hW', trodAll_mk1 (shut_bool Tryd.underlying4 _), (trodAll_cons_mk (Below.trod laidOut (by kernel_rfl) (of_decide_eq_true (by kernel_rfl)) k0 bel lt0) (trodAll_cons_mk (shut_int Tryd.underlying5 hv1) trodAll_mk0)), rfl, bel.frame _, fun h => by cases h⟩
theorem over : Rows.overDropsRow.holds Tryd.pinned (OpenSpec.ofChange Rows.overDropsSpec) :=
  OpenClaim.holds_of_wide 4 Tryd.f4 rfl rfl rfl rfl rfl rfl rfl ⟨rfl, rfl, rfl, rfl, rfl⟩ rfl rfl rfl rfl rfl (by kernel_rfl) Tryd.func4 (by kernel_rfl)
    (of_decide_eq_true (by kernel_rfl)) (by unfold Func.isWrapper; first | (rw [if_pos (by decide +kernel)]; kernel_rfl) | (rw [if_neg (by decide +kernel)]; exact ⟨rfl, rfl⟩))
    (fun os started H enc _ => lifted os started H enc)
theorem card : Claim7.holds Tryd.pinned (.plain (OpenSpec.ofChange Rows.overDropsSpec)) Rows.overDropsCard :=
  Claim7.holds_tied_plain_at .later [] [.data, .data, .pinned] true (true, "5629122fc7e22ec38083d154da1d52d5b6c509a811ad847a0e4b167bf671c9f1") false
    over (fun _ h => by cases h) (by kernel_rfl) (fun _ h => by cases h) overDrops_row_tie rfl ⟨rfl, rfl⟩ (by kernel_rfl) rfl
    (fun f fn hf hfn => by
      obtain rfl : f = 4 := Option.some.inj ((show Tryd.prog.funcNamed "epitome/epitomelaw11.OverDrops" = some 4 by kernel_rfl).symm.trans hf) |>.symm
      obtain rfl : fn = Tryd.f4 := (Option.some.inj (Tryd.func4.symm.trans hfn)).symm
      exact ⟨by kernel_rfl, fun j t ht => by
        rw [Tryd.params4] at ht
        match j, ht with
        | 0, ht =>
          obtain rfl : t = 22 := by simpa using ht.symm
          exact (show Tryd.prog.wantsStandIn 22 = false by kernel_rfl)
        | 1, ht =>
          obtain rfl : t = 5 := by simpa using ht.symm
          exact (show Tryd.prog.wantsStandIn 5 = false by kernel_rfl)
        | j + 2, ht => simp at ht⟩)
    (by kernel_rfl)
theorem proved : Rows.OverDropsCardSaid := card
end Go.Proofs.YtnfaahacakliiaaDoor.overDrops
namespace Go.Proofs.YtnfaahacakliiaaDoor
theorem overDrops_holds : Rows.OverDropsCardSaid := overDrops.proved
#print axioms overDrops_holds
end Go.Proofs.YtnfaahacakliiaaDoor
end
