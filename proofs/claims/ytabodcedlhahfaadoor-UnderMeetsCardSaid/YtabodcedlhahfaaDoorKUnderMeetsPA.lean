import Derived.Test.YtabodcedlhahfaaDoorKUnderMeetsA
import Derived.Test.YtabodcedlhahfaaDoorKUnderPA
import Derived.Below
import Derived.Deep.Draws
import Derived.Deep.AppendLies
import Derived.Maps.AppendAt
import Derived.OwnWalk
import Derived.Laws.BytesArg
import Derived.Laws.MakeOwn
import Derived.Laws.OwnMore
import Derived.Deep.OwnRows
import Derived.Tactics
import Derived.Lib.ConvBytes
import Derived.Laws.Slices
import Derived.WalkKit
import Derived.KernelRfl
import Derived.RowKit3
import Derived.Deep.LoopGhost
import Derived.Deep.QuietTactic
import Derived.BigQuiet
import Derived.WideLaws
import Derived.Deep.DeepCutAuto
import Derived.Deep.CutBlock
import Derived.Deep.RegionHeld3
import Derived.Laws.Rows
import Derived.Lib.AppendStr
import Derived.ArgAppend
import Derived.Laws.IdiomCopy
import Derived.RowKit
import Derived.OrdersHeld
import Derived.Laws.BitsLemmas
import Derived.Laws.StructEq
import Derived.Test.YtabodcedlhahfaaDoorProg
import Derived.Handy
import Derived.Shelf.Unicode.DecodeSlow
import Derived.Ground.NamesProg
import Derived.Shelf.Unicode.ValidAny
import Derived.Laws.RangeString
import Derived.Laws.RangeAny
import Derived.Lib.RuneCount
import Derived.Laws.IdiomStrings
import Derived.Laws.Cover4
import Derived.Great.BuildSlice
import Derived.Defers
import Derived.Laws.EntriesVeiled
import Derived.ProofKit
import Derived.OpenShut
import Derived.ShutString
import Derived.ChangeOld
import Derived.SizedLaws
import Derived.Lib.ValidLaws
import Derived.Test.YtabodcedlhahfaaDoorRows
import Derived.Lib.LaidU8T
import Derived.Lib.LaidIn
import Derived.LaidLaws
import Derived.Test.YtabodcedlhahfaaDoorTie
import Derived.Test.YtabodcedlhahfaaDoorCards
import Derived.Carry
import Derived.ChangeSame
import Derived.ChangeVars
import Derived.JoinedOf
import Derived.SevenTiedAt
section
namespace Go.Proofs.YtabodcedlhahfaaDoor.F
open Go.RowKit Go.Proofs.YtabodcedlhahfaaDoorW.PrintWords Go.Proofs.YtabodcedlhahfaaDoorW.PrintLast Go.Proofs.YtabodcedlhahfaaDoorW.PrintMore
attribute [local go_sem] max2_int min2_int max_two min_two max_three min_three max_four min_four cell_setCell_isSome
set_option linter.unusedVariables false
set_option linter.unusedSimpArgs false
def epitomelaw12_UnderMeets.Pure : Prop := ∀ (a0 : ByteArray) (l1 : List (S26)) (l2 : List (S26)), a0.size ≤ maxLen → (l1.length ≤ maxLen ∧ ∀ x_ ∈ l1, V26 x_) → (l2.length ≤ maxLen ∧ ∀ x_ ∈ l2, V26 x_) → ∃ k, epitomelaw12_UnderMeets.f k a0 l1 l2 = some true
end Go.Proofs.YtabodcedlhahfaaDoor.F
end
section
namespace Go.Proofs.YtabodcedlhahfaaDoor.F
open Go.RowKit Go.Proofs.YtabodcedlhahfaaDoorW.PrintWords Go.Proofs.YtabodcedlhahfaaDoorW.PrintLast Go.Proofs.YtabodcedlhahfaaDoorW.PrintMore
set_option linter.unusedVariables false
set_option linter.unusedSimpArgs false
theorem apply_loop (l : List Un) (hl : Ok l) : ∀ (r pre : List Un) (t out : List Int), l = pre ++ r → (r.map Un.cin).sum = t.length → Runes t → Runes out → out.length + (r.map Un.cout).sum ≤ 1099511627776 →
    Ev (fun k => apply_To.l0 k t out (l.map Un.sp) ((l.map Un.sp).length : Int) (pre.length : Int)) (encT (out ++ app (exU r) t), 0)
  | [], pre, t, out, h, hc, ht, ho, hn => by
    refine Ev.step (f := fun _ => some (encT (out ++ app (exU []) t), 0)) (fun k => ?_) (Ev.now _)
    rw [apply_To.l0, if_neg (by subst h; simp), runesStr_enc _ ho]
    simp [exU, app]
  | u :: r, pre, t, out, h, hc, ht, ho, hn => by
    have hlt : (pre.length : Int) < ((l.map Un.sp).length : Int) := by subst h; simp <;> omega
    have hll : pre.length + (r.length + 1) = l.length := by subst h; simp
    have hle := hl.len
    have hrd : rd_T26 (l.map Un.sp) (pre.length : Int) = u.sp := by
      rw [h, List.map_append, List.map_cons]
      exact rdS_at (by simp)
    have hok := hl.ok u (by rw [h]; simp)
    have ih := fun t out => apply_loop l hl r (pre ++ [u]) t out (by simp [h])
    simp only [List.map_cons, List.sum_cons] at hc hn
    rw [exU_cons]
    cases u with
    | put p =>
      have hc : 0 + (r.map Un.cin).sum = t.length := hc
      have hn : out.length + (p.length + (r.map Un.cout).sum) ≤ 1099511627776 := hn
      have := ih t (out ++ p) (by omega) ht (Runes.append ho hok) (by simp; omega)
      rw [show (Un.put p).ex = p.map .p from rfl, app_put, ← List.append_assoc]
      refine Ev.step (fun k => ?_) this
      rw [apply_To.l0, if_pos hlt, if_pos (by omega), if_pos hlt, hrd, if_pos (show (Un.put p).sp.f0 = 2 from rfl), show (Un.put p).sp.f2 = encT p from rfl, strRunes_enc p hok (by omega), Option.bind_some, if_pos (by omega)]
      rw [show (Un.put p).sp.f1 = 0 from rfl, if_pos (by omega), if_pos (by omega), w64_succ _ (by omega)]
      simp
    | keep n =>
      have hc : n + (r.map Un.cin).sum = t.length := hc
      have hn : out.length + (n + (r.map Un.cout).sum) ≤ 1099511627776 := hn
      have := ih (t.drop n) (out ++ t.take n) (by rw [List.length_drop]; omega) (ht.drop n) (Runes.append ho (ht.take n)) (by simp; omega)
      rw [show (Un.keep n).ex = List.replicate n .k from rfl, app_keep n _ _ (by omega), ← List.append_assoc]
      refine Ev.step (fun k => ?_) this
      rw [apply_To.l0, if_pos hlt, if_pos (by omega), if_pos hlt, hrd, if_neg (show ¬ (Un.keep n).sp.f0 = 2 by simp [Un.sp]), if_pos (show (Un.keep n).sp.f0 = 1 from rfl), show (Un.keep n).sp.f1 = (n : Int) from rfl, if_pos (by omega), if_pos (by omega), Int.toNat_natCast, Option.bind_some, if_pos (by simp; omega), w64_succ _ (by omega)]
      simp
    | drop n =>
      have hc : n + (r.map Un.cin).sum = t.length := hc
      have hn : out.length + (0 + (r.map Un.cout).sum) ≤ 1099511627776 := hn
      have := ih (t.drop n) out (by rw [List.length_drop]; omega) (ht.drop n) ho (by omega)
      rw [show (Un.drop n).ex = List.replicate n .d from rfl, app_drop n _ _ (by omega)]
      refine Ev.step (fun k => ?_) this
      rw [apply_To.l0, if_pos hlt, if_pos (by omega), if_pos hlt, hrd, if_neg (show ¬ (Un.drop n).sp.f0 = 2 by simp [Un.sp]), if_neg (show ¬ (Un.drop n).sp.f0 = 1 by simp [Un.sp]), show (Un.drop n).sp.f1 = (n : Int) from rfl, if_pos (by omega), if_pos (by omega), Int.toNat_natCast, w64_succ _ (by omega)]
      simp
theorem applyTo_is {us : List Un} (h : Ok us) (t : List Int) (ht : Runes t) (hc : (us.map Un.cin).sum = t.length) : Ev (fun k => apply_To.f k (us.map Un.sp) (encT t)) (encT (app (exU us) t), 0) := by
  have hci := h.cin
  have hco := h.cout
  unfold apply_To.f
  refine Ev.bind (opMay_is h) (ev_if_pos rfl ?_)
  refine ev_some (count_enc t ht (by omega)) (ev_if_neg (by omega) ?_)
  refine Ev.bind (opIn_is h) (ev_if_pos (by omega) ?_)
  refine ev_some (strRunes_enc t ht (by omega)) ?_
  have := apply_loop us h us [] t [] rfl hc ht Runes.nil (by simpa using hco)
  simpa using this
end Go.Proofs.YtabodcedlhahfaaDoor.F
end
section
namespace Go.Proofs.YtabodcedlhahfaaDoor.F
open Go.RowKit Go.Proofs.YtabodcedlhahfaaDoorW.PrintWords Go.Proofs.YtabodcedlhahfaaDoorW.PrintLast Go.Proofs.YtabodcedlhahfaaDoorW.PrintMore
set_option linter.unusedVariables false
set_option linter.unusedSimpArgs false
def rowsS (w : List (List Un)) : List (List Sp) := w.map (fun us => us.map Un.sp)
theorem rowsS_length (w : List (List Un)) : (rowsS w).length = w.length := by unfold rowsS; exact List.length_map _
theorem rowsS_get {w pre r : List (List Un)} {us : List Un} (h : w = pre ++ us :: r) : (rowsS w).getD (pre.length : Int).toNat [] = us.map Un.sp := by
  rw [Int.toNat_natCast, List.getD_eq_getElem?_getD, h]
  simp [rowsS]
end Go.Proofs.YtabodcedlhahfaaDoor.F
end
section
namespace Go.Proofs.YtabodcedlhahfaaDoor.F
open Go.RowKit Go.Proofs.YtabodcedlhahfaaDoorW.PrintWords Go.Proofs.YtabodcedlhahfaaDoorW.PrintLast Go.Proofs.YtabodcedlhahfaaDoorW.PrintMore
set_option linter.unusedVariables false
set_option linter.unusedSimpArgs false
def apps : List Int → List (List Un) → List Int
  | t, [] => t
  | t, us :: r => apps (app (exU us) t) r
def AppOk : List Int → List (List Un) → Prop
  | _, [] => True
  | t, us :: r => Ok us ∧ (us.map Un.cin).sum = t.length ∧ Runes (app (exU us) t) ∧ AppOk (app (exU us) t) r
theorem apply_row (w : List (List Un)) (hw : w.length ≤ 1000000) : ∀ (r pre : List (List Un)) (t : List Int), w = pre ++ r → Runes t → AppOk t r →
    Ev (fun k => apply_All.l0 k (encT t) (rowsS w) ((rowsS w).length : Int) (pre.length : Int)) (encT (apps t r), 0)
  | [], pre, t, h, ht, _ => by
    rw [List.append_nil] at h
    subst h
    exact Ev.step (f := fun _ => some (encT t, 0)) (fun k => by rw [apply_All.l0, if_neg (by rw [rowsS_length]; omega)]) (Ev.now _)
  | us :: r, pre, t, h, ht, ⟨h1, h2, h3, h4⟩ => by
    have hll : w.length = pre.length + (r.length + 1) := by rw [h]; simp
    have hrl := rowsS_length w
    have ih := apply_row w hw r (pre ++ [us]) (app (exU us) t) (by simp [h]) h3 h4
    rw [List.length_append, List.length_singleton] at ih
    refine Ev.step (f := fun k => (apply_To.f k (us.map Un.sp) (encT t)).bind fun bt103 => if bt103.2 = 0 then apply_All.l0 k bt103.1 (rowsS w) ((rowsS w).length : Int) ((pre.length + 1 : Nat) : Int) else some ((⟨#[]⟩ : ByteArray), bt103.2)) (fun k => ?_) (Ev.bind (applyTo_is h1 t ht h2) (ev_if_pos rfl ih))
    rw [apply_All.l0, if_pos (by omega), if_pos (by omega), if_pos (by omega), w64_succ _ (by omega), ← rowsS_get h]
    rfl
theorem applyAll_is {w : List (List Un)} (hw : w.length ≤ 1000000) {t : List Int} (ht : Runes t) (hl : t.length ≤ 1099511627776) (h : AppOk t w) : Ev (fun k => apply_All.f k (encT t) (rowsS w)) (encT (apps t w), 0) := by
  have lp := apply_row w hw w [] t rfl ht h
  have j0 : Ev (fun k => apply_All.j0 k (encT t) (rowsS w) false) (encT (apps t w), 0) := Ev.step (f := fun k => apply_All.l0 k (encT t) (rowsS w) ((rowsS w).length : Int) 0) (fun k => by rw [apply_All.j0, if_neg (by simp)]) lp
  unfold apply_All.f
  by_cases h0 : ((rowsS w).length : Int) = 0
  · exact ev_if_pos h0 (ev_some (validStr_enc t ht hl) j0)
  · exact ev_if_neg h0 j0
end Go.Proofs.YtabodcedlhahfaaDoor.F
end
section
namespace Go.Proofs.YtabodcedlhahfaaDoor.F
open Go.RowKit Go.Proofs.YtabodcedlhahfaaDoorW.PrintWords Go.Proofs.YtabodcedlhahfaaDoorW.PrintLast Go.Proofs.YtabodcedlhahfaaDoorW.PrintMore
set_option linter.unusedVariables false
set_option linter.unusedSimpArgs false
theorem emptyS_full (u : Un) : emptyS u.sp = !fullU u := by
  cases u with
  | keep n => rw [empty_keep]; cases n <;> simp [fullU]
  | drop n => rw [empty_drop]; cases n <;> simp [fullU]
  | put l => rw [empty_put]; cases l <;> simp [fullU]
theorem isNp_canon : ∀ y : List U, isN ((canon y).map Un.sp) = true
  | [] => rfl
  | t :: y => by
    have ih := isNp_canon y
    rw [canon_cons]
    generalize canon y = c at ih
    unfold isN at *
    rcases c with _ | ⟨v, r⟩
    · cases t <;> simp [consU, isNp, emptyS_full, fullU]
    · simp only [List.map_cons, isNp, Bool.and_eq_true, emptyS_full] at ih
      obtain ⟨h1, _, h2⟩ := ih
      cases t <;> cases v <;> simp only [consU, List.map_cons, isNp, emptyS_full, Bool.and_eq_true] <;> (first | (refine ⟨by simp [fullU], by simp, ?_⟩) | skip) <;> first | exact h2 | exact ⟨h1, by simp [Un.sp], h2⟩ | (simp [Un.sp]; done)
end Go.Proofs.YtabodcedlhahfaaDoor.F
end
section
namespace Go.Proofs.YtabodcedlhahfaaDoor.F
open Go.RowKit Go.Proofs.YtabodcedlhahfaaDoorW.PrintWords Go.Proofs.YtabodcedlhahfaaDoorW.PrintLast Go.Proofs.YtabodcedlhahfaaDoorW.PrintMore
set_option linter.unusedVariables false
set_option linter.unusedSimpArgs false
theorem Pure.UnderMeets : epitomelaw12_UnderMeets.Pure := by
  intro a0 l1 l2 h0 h1 h2
  apply Ev.rounds
  have hmn := mn_le (a0.size : Int) 30
  have hex := extract_size a0 (mn (a0.size : Int) 30).toNat
  have hf := fit01_is (a0.extract 0 (mn (a0.size : Int) 30).toNat) (by omega)
  obtain ⟨t, ht⟩ : ∃ t, fitRunes (a0.extract 0 (mn (a0.size : Int) 30).toNat) = t := ⟨_, rfl⟩
  have tl : t.length ≤ 30 := by rw [← ht, fitRunes_length]; omega
  have tr : Runes t := fun r hr => alpha_rune r (fitRunes_mem _ r (by rw [ht]; exact hr))
  rw [ht] at hf
  obtain ⟨us, hf0, f0⟩ := fitB l1 h1.1 h1.2 t.length (by omega)
  obtain ⟨vs, hf1, f1⟩ := fitB l2 h2.1 h2.2 t.length (by omega)
  have c0 := f0.cout
  have c1 := f1.cout
  have i0 := f0.cinU
  have i1 := f1.cinU
  have o0 := f0.coutU
  have o1 := f1.coutU
  have n0 := f0.cin
  have n1 := f1.cin
  have p0 := puts_le (exU us)
  have p1 := puts_le (exU vs)
  have hcu : cinU (exU us) = cinU (exU vs) := by omega
  have oB := overOk f0.runes hcu (by omega) (by omega)
  have oA := underOk f1.runes hcu.symm (by omega) (by omega)
  have s1 := over_sizes (exU us) (exU vs) hcu
  have s2 := under_sizes (exU vs) (exU us) hcu.symm
  have g1 := over_small hcu
  have g2 := under_small hcu.symm
  have bm := both_meet (exU us) (exU vs) t hcu i0
  have e1 := opIn_is oB
  have e2 := opIn_is oA
  rw [canon_in] at e1 e2
  have lu := app_length (exU us) t i0
  have lv := app_length (exU vs) t i1
  have ru := app_runes (exU us) t f0.runes tr
  have rv := app_runes (exU vs) t f1.runes tr
  have rB := app_runes (overU (exU us) (exU vs)) _ (over_runes _ _ f0.runes) rv
  have rA := app_runes (underU (exU vs) (exU us)) _ (under_runes _ _ f1.runes) ru
  have aP := applyAll_is (w := [vs, canon (overU (exU us) (exU vs))]) (by simp) tr (by omega) ⟨f1.ok, n1, rv, oB, by rw [canon_in]; omega, by rw [ex_canon]; exact rB, trivial⟩
  have aQ := applyAll_is (w := [us, canon (underU (exU vs) (exU us))]) (by simp) tr (by omega) ⟨f0.ok, n0, ru, oA, by rw [canon_in]; omega, by rw [ex_canon]; exact rA, trivial⟩
  simp only [apps, ex_canon] at aP aQ
  rw [bm] at aP
  have q0 := canon_length (overU (exU us) (exU vs))
  have q1 := length_two (overU (exU us) (exU vs))
  have q2 := canon_length (underU (exU vs) (exU us))
  have q3 := length_two (underU (exU vs) (exU us))
  have isB := normalIs_is ((canon (overU (exU us) (exU vs))).map Un.sp) (by rw [List.length_map]; omega)
  have isA := normalIs_is ((canon (underU (exU vs) (exU us))).map Un.sp) (by rw [List.length_map]; omega)
  rw [isNp_canon] at isB isA
  unfold epitomelaw12_UnderMeets.f
  refine Ev.bind shown12 (ev_if_pos (by omega) (ev_if_pos (by omega) (Ev.bind hf (ev_some (count_enc t tr (by omega)) (Ev.bind hf0 (ev_some (count_enc t tr (by omega)) (Ev.bind hf1 ?_)))))))
  refine Ev.bind (meet_is f0.ok f1.ok (by omega) (by omega) (by omega)) (Ev.bind aP (Ev.bind aQ ?_))
  refine ev_if_pos rfl (ev_if_pos rfl (ev_if_pos rfl (ev_if_pos rfl (ev_if_pos rfl ?_))))
  refine Ev.bind e2 (Ev.bind (opOut_is f0.ok) (ev_if_pos (by omega) (Ev.bind e1 (Ev.bind (opOut_is f1.ok) (ev_if_pos (by omega) ?_)))))
  exact Ev.bind isA (ev_if_pos rfl (Ev.bind isB (Ev.now true)))
end Go.Proofs.YtabodcedlhahfaaDoor.F
end
section
namespace Go.Proofs.YtabodcedlhahfaaDoor.underMeets
open Go.ChangeShapes Go.WideShapes Go.ChangeAt Go.RowKit Go.Proofs.YtabodcedlhahfaaDoor.F
open Go.Proofs.YtabodcedlhahfaaDoorW.PrintWords
open Go.ChangeMaps (open_string shut_string)
set_option linter.unusedVariables false
theorem own : ownKnob Tryd.prog.godebug = none := by kernel_rfl
theorem laidOut : laidOutB Tryd.prog = true := by kernel_rfl
theorem laid_met (os : Os) (args : Array Value) : laidMetH Tryd.prog Rows.underMeetsRow.laid ((laidWorld os).forCall (fun _ _ => 0) ⟨#[], args, []⟩).memory :=
  (LaidIn.of_run (l := Rows.underMeetsRow.laid) [2, 0, 1] 8 (by kernel_rfl) (by kernel_rfl) (by kernel_rfl) (by kernel_rfl)).met
set_option maxRecDepth 100000 in
theorem lifted (os : Os) (started : os.Started) (H : Type) (enc : TypeId × Value → H) :
    ReturnsInHanded {} Tryd.checked os 7 .any (fun w args => (Rows.underMeetsSpec.pre enc Tryd.prog Tryd.f7 [] false w args ∧ laidMetH Tryd.prog Rows.underMeetsRow.laid w) ∧ sizedMet enc Tryd.prog Tryd.f7 (OpenSpec.ofChange Rows.underMeetsSpec) false w args) (Rows.underMeetsSpec.post enc Tryd.prog Tryd.f7 false true false false) := by
  refine returnsInHanded_of_change_and (C := Tryd.checked) (X := (fun w _ => laidMetH Tryd.prog Rows.underMeetsRow.laid w)) (fun _ _ _ hh h => h.of_heap hh) own started (by kernel_rfl) Tryd.func7
    (ChangeSpec.witness_at (enc := enc) (C := Tryd.checked) (os := os) (X := (fun w _ => laidMetH Tryd.prog Rows.underMeetsRow.laid w)) false (laidWorld os) #[.string ByteArray.empty, .slice none 0 0, .slice none 0 0] 8 rfl (by kernel_rfl) (by kernel_rfl) (by kernel_rfl) (by kernel_rfl) (by kernel_rfl) (laid_met os _)) ?_
  intro W base args ds gs before hval0 hW _ _ hL _
  have hG : Glob W := glob_of_reads (Lib.laidMet.reads hL (.tail _ (.tail _ (.head _)))) (Lib.laidMet.reads hL (.head _)) (Lib.laidMet.reads hL (.tail _ (.head _)))
  have hval : ∀ (j : Nat) t v, Tryd.f7.params[j]? = some t → args[j]? = some v → Value.okWide Tryd.prog W .any base t v := hval0
  have hW' := hW
  obtain ⟨p, q, hA0, hV, rfl, hfz, hnd⟩ := hW
  have hA : DataW.TrodAll enc Tryd.prog W 0 (fun _ => true) true Tryd.f7.params.toList args.toList ds p := hA0
  rw [Tryd.params7] at hA hval
  obtain ⟨v0, vs0, d0, ds0, p0, q0, hargs, rfl, rfl, h0, r0⟩ := trodAll_cons hA
  obtain ⟨v1, vs1, d1, ds1, p1, q1, rfl, rfl, rfl, h1, r1⟩ := trodAll_cons r0
  obtain ⟨v2, vs2, d2, ds2, p2, q2, rfl, rfl, rfl, h2, r2⟩ := trodAll_cons r1
  obtain ⟨rfl, rfl, rfl⟩ := trodAll_nil r2
  obtain rfl : args = #[v0, v1, v2] := by cases args; simp_all
  obtain ⟨rfl, rfl⟩ := trodVars_none hV
  obtain ⟨a0, rfl, rfl, rfl, hv0⟩ := open_string Tryd.underlying9 (hval 0 9 v0 rfl rfl) h0
  obtain ⟨A1, n1, c1, rfl⟩ := okWide_slice Tryd.underlying27 (hval 1 27 v1 rfl rfl)
  have k1 := h1
  have lt1 : ∀ x ∈ p1, x.block < W.heap.size := by obtain ⟨m, hm⟩ := k1; exact DataW.trod_lt m _ _ _ hm
  obtain ⟨l1, z1, hv1⟩ : ∃ l, (Kd.slice 26 k26).K W l [Value.slice A1 n1 c1] ∧ (fun v_ => (v_.length ≤ maxLen ∧ ∀ x_ ∈ v_, V26 x_)) l := by
    obtain ⟨fuel, hf⟩ := h1
    exact (opens_slice Tryd.underlying27 (by kernel_rfl) opens26) enc W _ _ _ _ _ _ hf
  obtain ⟨A_, c_, e, hc1, hr1⟩ := z1
  simp only [List.cons.injEq, Value.slice.injEq, and_true] at e
  obtain ⟨rfl, rfl, rfl⟩ := e
  obtain ⟨A2, n2, c2, rfl⟩ := okWide_slice Tryd.underlying27 (hval 2 27 v2 rfl rfl)
  have k2 := h2
  have lt2 : ∀ x ∈ p2, x.block < W.heap.size := by obtain ⟨m, hm⟩ := k2; exact DataW.trod_lt m _ _ _ hm
  obtain ⟨l2, z2, hv2⟩ : ∃ l, (Kd.slice 26 k26).K W l [Value.slice A2 n2 c2] ∧ (fun v_ => (v_.length ≤ maxLen ∧ ∀ x_ ∈ v_, V26 x_)) l := by
    obtain ⟨fuel, hf⟩ := h2
    exact (opens_slice Tryd.underlying27 (by kernel_rfl) opens26) enc W _ _ _ _ _ _ hf
  obtain ⟨A_, c_, e, hc2, hr2⟩ := z2
  simp only [List.cons.injEq, Value.slice.injEq, and_true] at e
  obtain ⟨rfl, rfl, rfl⟩ := e
  obtain ⟨k, h⟩ := Pure.UnderMeets a0 l1 l2 hv0 hv1 hv2
  refine (epitomelaw12_UnderMeets.calls k a0 _ _ l1 _ _ l2 true ⟨rfl⟩ W hG hr1 hc1 hr2 hc2 h).mono ?_
  rintro e W' ⟨rfl, hd⟩
  have bel : Below W.heap.size W W' := hd
  exact ⟨_, rfl, _, _, _, [], _, [], hW', trodAll_mk1 (shut_bool Tryd.underlying4 _), (trodAll_cons_mk (shut_string Tryd.underlying9 hv0) (trodAll_cons_mk (Below.trod laidOut (by kernel_rfl) (of_decide_eq_true (by kernel_rfl)) k1 bel lt1) (trodAll_cons_mk (Below.trod laidOut (by kernel_rfl) (of_decide_eq_true (by kernel_rfl)) k2 bel lt2) trodAll_mk0))), rfl, bel.frame _, fun h => by cases h⟩
theorem over : Rows.underMeetsRow.holds Tryd.pinned (OpenSpec.ofChange Rows.underMeetsSpec) :=
  OpenClaim.holds_of_wide 7 Tryd.f7 rfl rfl rfl rfl rfl rfl rfl ⟨rfl, rfl, rfl, rfl, rfl⟩ rfl rfl rfl rfl rfl (by kernel_rfl) Tryd.func7 (by kernel_rfl)
    (of_decide_eq_true (by kernel_rfl)) (by unfold Func.isWrapper; first | (rw [if_pos (by decide +kernel)]; kernel_rfl) | (rw [if_neg (by decide +kernel)]; exact ⟨rfl, rfl⟩))
    (fun os started H enc _ => lifted os started H enc)
theorem card : Claim7.holds Tryd.pinned (.plain (OpenSpec.ofChange Rows.underMeetsSpec)) Rows.underMeetsCard :=
  Claim7.holds_tied_plain_at .later [] [.data, .data, .pinned] true (true, "c2251930897601772addbf6c1a442b84cebd7f45a12749bf08b797a7bafbc561") false
    over (fun _ h => by cases h) (by kernel_rfl) (fun _ h => by cases h) underMeets_row_tie rfl ⟨rfl, rfl⟩ (by kernel_rfl) rfl
    (fun f fn hf hfn => by
      obtain rfl : f = 7 := Option.some.inj ((show Tryd.prog.funcNamed "epitome/epitomelaw12.UnderMeets" = some 7 by kernel_rfl).symm.trans hf) |>.symm
      obtain rfl : fn = Tryd.f7 := (Option.some.inj (Tryd.func7.symm.trans hfn)).symm
      exact ⟨by kernel_rfl, fun j t ht => by
        rw [Tryd.params7] at ht
        match j, ht with
        | 0, ht =>
          obtain rfl : t = 9 := by simpa using ht.symm
          exact (show Tryd.prog.wantsStandIn 9 = false by kernel_rfl)
        | 1, ht =>
          obtain rfl : t = 27 := by simpa using ht.symm
          exact (show Tryd.prog.wantsStandIn 27 = false by kernel_rfl)
        | 2, ht =>
          obtain rfl : t = 27 := by simpa using ht.symm
          exact (show Tryd.prog.wantsStandIn 27 = false by kernel_rfl)
        | j + 3, ht => simp at ht⟩)
    (by kernel_rfl)
theorem proved : Rows.UnderMeetsCardSaid := card
end Go.Proofs.YtabodcedlhahfaaDoor.underMeets
namespace Go.Proofs.YtabodcedlhahfaaDoor
theorem underMeets_holds : Rows.UnderMeetsCardSaid := underMeets.proved
#print axioms underMeets_holds
end Go.Proofs.YtabodcedlhahfaaDoor
end
