import Derived.Test.YtkgicpnnlkcaeaaDoorKZGapsBackF
import Derived.Test.YtkgicpnnlkcaeaaDoorKZGapsBackPA
import Derived.Below
import Derived.Deep.Draws
import Derived.Deep.AppendLies
import Derived.Maps.AppendAt
import Derived.OwnWalk
import Derived.Laws.BytesArg
import Derived.Laws.MakeOwn
import Derived.Laws.OwnMore
import Derived.Deep.OwnRows
import Derived.Tactics
import Derived.Lib.ConvBytes
import Derived.Laws.Slices
import Derived.WalkKit
import Derived.KernelRfl
import Derived.RowKit3
import Derived.Deep.LoopGhost
import Derived.Deep.QuietTactic
import Derived.BigQuiet
import Derived.WideLaws
import Derived.Deep.DeepCutAuto
import Derived.Deep.CutBlock
import Derived.Deep.RegionHeld3
import Derived.Laws.Rows
import Derived.Lib.AppendStr
import Derived.ArgAppend
import Derived.Laws.IdiomCopy
import Derived.RowKit
import Derived.OrdersHeld
import Derived.Laws.BitsLemmas
import Derived.Laws.StructEq
import Derived.Test.YtkgicpnnlkcaeaaDoorProg
import Derived.Handy
import Derived.Shelf.Unicode.DecodeSlow
import Derived.Ground.NamesProg
import Derived.Shelf.Unicode.ValidAny
import Derived.Maps.OwnOps
import Derived.Maps.Views
import Derived.Laws.RangeString
import Derived.Laws.RangeAny
import Derived.Lib.RuneCount
import Derived.Laws.IdiomStrings
import Derived.Laws.Cover4
import Derived.ProofKit
import Derived.OpenShut
import Derived.ShutString
import Derived.ChangeOld
import Derived.SizedLaws
import Derived.Lib.ValidLaws
import Derived.Test.YtkgicpnnlkcaeaaDoorRows
import Derived.Lib.LaidU8T
import Derived.Lib.LaidIn
import Derived.LaidLaws
import Derived.Test.YtkgicpnnlkcaeaaDoorTie
import Derived.Test.YtkgicpnnlkcaeaaDoorCards
import Derived.Carry
import Derived.ChangeSame
import Derived.ChangeVars
import Derived.JoinedOf
import Derived.SevenTiedAt
section
namespace Go.Proofs.YtkgicpnnlkcaeaaDoor.F
open Go.RowKit Go.Proofs.YtkgicpnnlkcaeaaDoorW.PrintWords Go.Proofs.YtkgicpnnlkcaeaaDoorW.PrintLast Go.Proofs.YtkgicpnnlkcaeaaDoorW.PrintMore
attribute [local go_sem] max2_int min2_int max_two min_two max_three min_three max_four min_four cell_setCell_isSome
set_option linter.unusedVariables false
set_option linter.unusedSimpArgs false
def epitomelaw06_GapsBack.Pure : Prop := ∀ (l0_0 : List ByteArray) (l0_1 : List Bool), (l0_0.length ≤ maxLen ∧ ∀ x_ ∈ l0_0, x_.size ≤ maxLen) → (l0_1.length ≤ maxLen ∧ ∀ x_ ∈ l0_1, True) → ∃ k, epitomelaw06_GapsBack.f k l0_0 l0_1 = some true
end Go.Proofs.YtkgicpnnlkcaeaaDoor.F
end
section
namespace Go.Proofs.YtkgicpnnlkcaeaaDoor.F
open Go.RowKit Go.Proofs.YtkgicpnnlkcaeaaDoorW.PrintWords Go.Proofs.YtkgicpnnlkcaeaaDoorW.PrintLast Go.Proofs.YtkgicpnnlkcaeaaDoorW.PrintMore
set_option linter.unusedVariables false
set_option linter.unusedSimpArgs false
theorem ungp_runes : ∀ (ps : List (List Int)) (gs : List Bool), (∀ p ∈ ps, Runes p) → RunesU (ungp ps gs)
  | [], _, _ => fun r h => by cases h
  | p :: ps, [], h => RunesU.put (h p (by simp))
  | p :: ps, g :: gs, h => by
    rw [ungp]
    refine RunesU.append (RunesU.put (h p (by simp))) ?_
    intro r hr
    rcases List.mem_cons.1 hr with e | hr
    · cases g <;> simp [ug] at e
    · exact ungp_runes ps gs (fun q hq => h q (by simp [hq])) r hr
theorem ungp_in : ∀ (ps : List (List Int)) (gs : List Bool), ps.length = gs.length + 1 → cinU (ungp ps gs) = gs.length
  | [], gs, h => by simp at h
  | [p], [], _ => cinU_un (.put p)
  | p :: q :: ps, [], h => by simp at h
  | p :: ps, g :: gs, h => by
    have ih := ungp_in ps gs (by simpa using h)
    have e : cinU (p.map U.p) = 0 := cinU_un (.put p)
    rw [ungp, cinU_append, e]
    cases g <;> simp [ug, cinU, ih]
def keptG : List Bool → Nat
  | [] => 0
  | g :: gs => (if g = true then 0 else 1) + keptG gs
theorem ungp_out : ∀ (ps : List (List Int)) (gs : List Bool), ps.length = gs.length + 1 → coutU (ungp ps gs) = (ps.map List.length).sum + keptG gs
  | [], gs, h => by simp at h
  | [p], [], _ => by
    have e : coutU (p.map U.p) = p.length := coutU_un (.put p)
    simp [ungp, e, keptG]
  | p :: q :: ps, [], h => by simp at h
  | p :: ps, g :: gs, h => by
    have ih := ungp_out ps gs (by simpa using h)
    have e : coutU (p.map U.p) = p.length := coutU_un (.put p)
    rw [ungp, coutU_append, e]
    cases g <;> simp [ug, coutU, ih, keptG] <;> omega
theorem sum_few : ∀ (ps : List (List Int)) (m : Nat), (∀ p ∈ ps, p.length ≤ m) → (ps.map List.length).sum ≤ m * ps.length
  | [], m, _ => by simp
  | p :: ps, m, h => by
    have h1 := h p (by simp)
    have h2 := sum_few ps m (fun q hq => h q (by simp [hq]))
    simp only [List.map_cons, List.sum_cons, List.length_cons, Nat.mul_succ]
    omega
theorem keptG_le : ∀ gs : List Bool, keptG gs ≤ gs.length
  | [] => Nat.le_refl _
  | g :: gs => by
    have := keptG_le gs
    rw [keptG, List.length_cons]
    split <;> omega
theorem back_l1 (c : List Un) (ps qs : List ByteArray) (gs hs : List Bool) (m n : Nat) (ok : Ok c) (hn : (c.map Un.sp).length ≤ 4611686018427387904) (hN : isN (c.map Un.sp) = true) (hS : Ev (fun k => epitomeref06_Same.f k qs hs ps gs) true)
    (hi : (c.map Un.cin).sum = gs.length) (ho : (c.map Un.cout).sum = m + keptG gs) (hg : gs.length ≤ 40) (hm : m ≤ 10000) : ∀ (r pre : List Bool), gs = pre ++ r →
    Ev (fun k => epitomelaw06_GapsBack.l1 k true (c.map Un.sp) 0 0 ((m + keptG pre : Nat) : Int) (pre.length : Int) ps gs qs hs) true
  | [], pre, h => by
    rw [List.append_nil] at h
    subst h
    refine Ev.step (f := fun k => _) (fun k => by rw [epitomelaw06_GapsBack.l1, if_neg (by omega)]) ?_
    refine ev_if_pos rfl (ev_if_pos rfl (ev_if_pos rfl ?_))
    refine Ev.bind hS (ev_if_pos rfl ?_)
    refine Ev.bind (normalIs_is _ hn) (ev_if_pos hN ?_)
    refine Ev.bind (opIn_is ok) (ev_if_pos (by omega) ?_)
    refine Ev.bind (opOut_is ok) ?_
    rw [ho, beq_self_eq_true]
    exact Ev.now _
  | g :: r, pre, h => by
    have hll : pre.length + (r.length + 1) = gs.length := by rw [h]; simp
    have hrd := rdG_at gs pre r g h
    have ih := back_l1 c ps qs gs hs m n ok hn hN hS hi ho hg hm r (pre ++ [g]) (by simp [h])
    have hk : ∀ (a : List Bool) (b : Bool), keptG (a ++ [b]) = keptG a + (if b = true then 0 else 1) := by
      intro a b
      induction a with
      | nil => cases b <;> rfl
      | cons x a ih => rw [List.cons_append, keptG, keptG, ih]; omega
    have hkl := keptG_le pre
    rw [hk] at ih
    cases g
    · refine Ev.step (fun k => ?_) ih
      rw [epitomelaw06_GapsBack.l1, if_pos (by omega), if_pos (by omega), hrd, if_neg (by simp), w64_succ _ (by omega), w64_succ _ (by omega)]
      simp [Nat.add_assoc]
    · refine Ev.step (fun k => ?_) ih
      rw [epitomelaw06_GapsBack.l1, if_pos (by omega), if_pos (by omega), hrd, if_pos rfl, w64_succ _ (by omega)]
      simp
theorem back_l0 (c : List Un) (ps : List (List Int)) (qs : List ByteArray) (gs hs : List Bool) (hr : ∀ p ∈ ps, Runes p ∧ p.length ≤ 20) (hl : ps.length ≤ 41) (v : Bool)
    (hv : Ev (fun k => epitomelaw06_GapsBack.l1 k true (c.map Un.sp) 0 0 (((ps.map List.length).sum : Nat) : Int) 0 (ps.map encT) gs qs hs) v) : ∀ (r pre : List (List Int)), ps = pre ++ r →
    Ev (fun k => epitomelaw06_GapsBack.l0 k true (c.map Un.sp) 0 0 (((pre.map List.length).sum : Nat) : Int) (pre.length : Int) (ps.map encT) gs qs hs) v
  | [], pre, h => by
    rw [List.append_nil] at h
    subst h
    refine Ev.step (fun k => ?_) hv
    rw [epitomelaw06_GapsBack.l0, if_neg (by rw [List.length_map]; omega)]
  | p :: r, pre, h => by
    have hll : pre.length + (r.length + 1) = ps.length := by rw [h]; simp
    have hp := hr p (by rw [h]; simp)
    have hrd : rdOf ByteArray.empty (ps.map encT) (pre.length : Int) = encT p := by
      have := rdB_at (ps.map encT) (pre.map encT) (r.map encT) (encT p) (by rw [h]; simp)
      simpa using this
    have hsum := sum_few pre 20 (fun q hq => (hr q (by rw [h]; simp [hq])).2)
    have ih := back_l0 c ps qs gs hs hr hl v hv r (pre ++ [p]) (by simp [h])
    refine Ev.step (f := fun k => _) (fun k => by rw [epitomelaw06_GapsBack.l0, if_pos (by rw [List.length_map]; omega), if_pos (by omega), hrd, w64_succ _ (by omega)]) ?_
    refine Ev.bind (refCount_enc p hp.1 (by omega)) ?_
    rw [w64 (by omega) (by omega)]
    simpa using ih
theorem f0_keep (n : Nat) : (Un.keep n).sp.f0 = 1 := rfl
theorem f0_put (l : List Int) : (Un.put l).sp.f0 = 2 := rfl
theorem f0_drop (n : Nat) : (Un.drop n).sp.f0 = 3 := rfl
theorem isN_cons (u : U) (c : List Un) (h : isN (c.map Un.sp) = true) : isN ((consU u c).map Un.sp) = true := by
  unfold isN at h ⊢
  rcases c with _ | ⟨v, r⟩
  · cases u <;> simp [consU, isNp, empty_keep, empty_put, empty_drop]
  · cases u <;> cases v <;> simp [consU, isNp, empty_keep, empty_put, empty_drop, f0_keep, f0_put, f0_drop] at h ⊢ <;> first | exact h | exact h.2
theorem isN_canon : ∀ x : List U, isN ((canon x).map Un.sp) = true
  | [] => rfl
  | u :: x => by rw [canon_cons]; exact isN_cons u _ (isN_canon x)
theorem Pure.GapsBack : epitomelaw06_GapsBack.Pure := by
  intro l0 l1 h0 h1
  apply Ev.rounds
  obtain ⟨ps, gs, hf, hl, hg, hr⟩ := fit06_is l0 l1 h0.1
  have hrr : ∀ p ∈ ps, Runes p := fun p hp => (hr p hp).1
  have hru := ungp_runes ps gs hrr
  have hin := ungp_in ps gs hl
  have hout := ungp_out ps gs hl
  have hsum := sum_few ps 20 (fun q hq => (hr q hq).2)
  have hkl := keptG_le gs
  have ok := canon_ok hru (by omega) (by omega)
  have gp := gp_ungp ps gs hl
  have hcl := canon_length (ungp ps gs)
  have hcl2 := length_two (ungp ps gs)
  have ci := canon_in (ungp ps gs)
  have co := canon_out (ungp ps gs)
  unfold epitomelaw06_GapsBack.f
  refine Ev.bind shown06 ?_
  refine Ev.bind hf ?_
  refine ev_some (spansOf_is ps gs hl hrr (by omega) (by omega)) ?_
  refine Ev.bind (gapsOf_is ok (by omega)) ?_
  rw [ex_canon, gp.1, gp.2]
  have hS := same6_is (ps.map encT) (ps.map encT) gs gs (by rw [List.length_map]; omega) (by omega)
  rw [decide_eq_true ⟨rfl, rfl⟩] at hS
  have hN := isN_canon (ungp ps gs)
  refine back_l0 _ ps _ gs _ hr (by omega) true ?_ ps [] rfl
  have := back_l1 (canon (ungp ps gs)) (ps.map encT) (ps.map encT) gs gs (ps.map List.length).sum 0 ok (by rw [List.length_map]; omega) hN hS (by omega) (by omega) (by omega) (by omega) gs [] rfl
  exact this
end Go.Proofs.YtkgicpnnlkcaeaaDoor.F
end
section
namespace Go.Proofs.YtkgicpnnlkcaeaaDoor.gapsBack
open Go.ChangeShapes Go.WideShapes Go.ChangeAt Go.RowKit Go.Proofs.YtkgicpnnlkcaeaaDoor.F
open Go.Proofs.YtkgicpnnlkcaeaaDoorW.PrintWords
open Go.ChangeMaps (open_string shut_string)
set_option linter.unusedVariables false
theorem own : ownKnob Tryd.prog.godebug = none := by kernel_rfl
theorem laidOut : laidOutB Tryd.prog = true := by kernel_rfl
theorem laid_met (os : Os) (args : Array Value) : laidMetH Tryd.prog Rows.gapsBackRow.laid ((laidWorld os).forCall (fun _ _ => 0) ⟨#[], args, []⟩).memory :=
  (LaidIn.of_run (l := Rows.gapsBackRow.laid) [2, 0, 1] 8 (by kernel_rfl) (by kernel_rfl) (by kernel_rfl) (by kernel_rfl)).met
set_option maxRecDepth 100000 in
theorem lifted (os : Os) (started : os.Started) (H : Type) (enc : TypeId × Value → H) :
    ReturnsInHanded {} Tryd.checked os 11 .any (fun w args => (Rows.gapsBackSpec.pre enc Tryd.prog Tryd.f11 [] false w args ∧ laidMetH Tryd.prog Rows.gapsBackRow.laid w) ∧ sizedMet enc Tryd.prog Tryd.f11 (OpenSpec.ofChange Rows.gapsBackSpec) false w args) (Rows.gapsBackSpec.post enc Tryd.prog Tryd.f11 false true false false) := by
  refine returnsInHanded_of_change_and (C := Tryd.checked) (X := (fun w _ => laidMetH Tryd.prog Rows.gapsBackRow.laid w)) (fun _ _ _ hh h => h.of_heap hh) own started (by kernel_rfl) Tryd.func11
    (ChangeSpec.witness_at (enc := enc) (C := Tryd.checked) (os := os) (X := (fun w _ => laidMetH Tryd.prog Rows.gapsBackRow.laid w)) false (laidWorld os) #[.agg #[.slice none 0 0, .slice none 0 0]] 8 rfl (by kernel_rfl) (by kernel_rfl) (by kernel_rfl) (by kernel_rfl) (by kernel_rfl) (laid_met os _)) ?_
  intro W base args ds gs before hval0 hW _ _ hL _
  have hG : Glob W := glob_of_reads (Lib.laidMet.reads hL (.tail _ (.tail _ (.head _)))) (Lib.laidMet.reads hL (.head _)) (Lib.laidMet.reads hL (.tail _ (.head _)))
  have hval : ∀ (j : Nat) t v, Tryd.f11.params[j]? = some t → args[j]? = some v → Value.okWide Tryd.prog W .any base t v := hval0
  have hW' := hW
  obtain ⟨p, q, hA0, hV, rfl, hfz, hnd⟩ := hW
  have hA : DataW.TrodAll enc Tryd.prog W 0 (fun _ => true) true Tryd.f11.params.toList args.toList ds p := hA0
  rw [Tryd.params11] at hA hval
  obtain ⟨v0, vs0, d0, ds0, p0, q0, hargs, rfl, rfl, h0, r0⟩ := trodAll_cons hA
  obtain ⟨rfl, rfl, rfl⟩ := trodAll_nil r0
  obtain rfl : args = #[v0] := by cases args; simp_all
  obtain ⟨rfl, rfl⟩ := trodVars_none hV
  obtain ⟨cs0, rfl⟩ := agg_struct Tryd.underlying28 (hval 0 28 v0 rfl rfl)
  have k0 := h0
  have lt0 : ∀ x ∈ p0, x.block < W.heap.size := by obtain ⟨m, hm⟩ := k0; exact DataW.trod_lt m _ _ _ hm
  obtain ⟨x0, z0, hv0⟩ : ∃ x, k28.K W x cs0.toList ∧ V28 x := by
    obtain ⟨fuel, hf⟩ := h0
    exact opens28 enc W _ _ _ _ _ _ hf
  obtain ⟨c0_0, w0_0, e0_0, h0_0, h0_1⟩ := z0
  obtain ⟨A0_0, c_0_0, ec0_0, hc0_0, hr0_0⟩ := h0_0
  obtain ⟨A0_1, c_0_1, ec0_1, hc0_1, hr0_1⟩ := h0_1
  obtain rfl : cs0 = #[.slice A0_0 x0.f0.length c_0_0, .slice A0_1 x0.f1.length c_0_1] := by
    apply arr_of (l := [.slice A0_0 x0.f0.length c_0_0, .slice A0_1 x0.f1.length c_0_1])
    rw [e0_0, ec0_0, ec0_1]
    rfl
  obtain ⟨b0_0, b0_1⟩ := x0
  obtain ⟨k, h⟩ := Pure.GapsBack b0_0 b0_1 (by exact hv0.1) (by exact hv0.2)
  refine (epitomelaw06_GapsBack.calls k _ _ b0_0 _ _ b0_1 true W hG hr0_0 hc0_0 hr0_1 hc0_1 h).mono ?_
  rintro e W' ⟨rfl, hd⟩
  have bel : Below W.heap.size W W' := hd
  exact ⟨_, rfl, _, _, _, [], _, [], hW', trodAll_mk1 (shut_bool Tryd.underlying4 _), (trodAll_cons_mk (Below.trod laidOut (by kernel_rfl) (of_decide_eq_true (by kernel_rfl)) k0 bel lt0) trodAll_mk0), rfl, bel.frame _, fun h => by cases h⟩
theorem over : Rows.gapsBackRow.holds Tryd.pinned (OpenSpec.ofChange Rows.gapsBackSpec) :=
  OpenClaim.holds_of_wide 11 Tryd.f11 rfl rfl rfl rfl rfl rfl rfl ⟨rfl, rfl, rfl, rfl, rfl⟩ rfl rfl rfl rfl rfl (by kernel_rfl) Tryd.func11 (by kernel_rfl)
    (of_decide_eq_true (by kernel_rfl)) (by unfold Func.isWrapper; first | (rw [if_pos (by decide +kernel)]; kernel_rfl) | (rw [if_neg (by decide +kernel)]; exact ⟨rfl, rfl⟩))
    (fun os started H enc _ => lifted os started H enc)
theorem card : Claim7.holds Tryd.pinned (.plain (OpenSpec.ofChange Rows.gapsBackSpec)) Rows.gapsBackCard :=
  Claim7.holds_tied_plain_at .later [] [.data, .data, .pinned] true (true, "8ebf4b5b935d62fb34083f0ec33522bf7d163fe9f2247210fb781f7bf7557387") false
    over (fun _ h => by cases h) (by kernel_rfl) (fun _ h => by cases h) gapsBack_row_tie rfl ⟨rfl, rfl⟩ (by kernel_rfl) rfl
    (fun f fn hf hfn => by
      obtain rfl : f = 11 := Option.some.inj ((show Tryd.prog.funcNamed "epitome/epitomelaw06.GapsBack" = some 11 by kernel_rfl).symm.trans hf) |>.symm
      obtain rfl : fn = Tryd.f11 := (Option.some.inj (Tryd.func11.symm.trans hfn)).symm
      exact ⟨by kernel_rfl, fun j t ht => by
        rw [Tryd.params11] at ht
        match j, ht with
        | 0, ht =>
          obtain rfl : t = 28 := by simpa using ht.symm
          exact (show Tryd.prog.wantsStandIn 28 = false by kernel_rfl)
        | j + 1, ht => simp at ht⟩)
    (by kernel_rfl)
theorem proved : Rows.GapsBackCardSaid := card
end Go.Proofs.YtkgicpnnlkcaeaaDoor.gapsBack
namespace Go.Proofs.YtkgicpnnlkcaeaaDoor
theorem gapsBack_holds : Rows.GapsBackCardSaid := gapsBack.proved
#print axioms gapsBack_holds
end Go.Proofs.YtkgicpnnlkcaeaaDoor
end
