import Derived.Test.YtkgicpnnlkcaeaaDoorKApplyPlacesA
import Derived.Test.YtkgicpnnlkcaeaaDoorKEPA
import Derived.Below
import Derived.Deep.Draws
import Derived.Deep.AppendLies
import Derived.Maps.AppendAt
import Derived.OwnWalk
import Derived.Laws.BytesArg
import Derived.Laws.MakeOwn
import Derived.Laws.OwnMore
import Derived.Deep.OwnRows
import Derived.Tactics
import Derived.Lib.ConvBytes
import Derived.Laws.Slices
import Derived.WalkKit
import Derived.KernelRfl
import Derived.RowKit3
import Derived.Deep.LoopGhost
import Derived.Deep.QuietTactic
import Derived.BigQuiet
import Derived.WideLaws
import Derived.Deep.DeepCutAuto
import Derived.Deep.CutBlock
import Derived.Deep.RegionHeld3
import Derived.Laws.Rows
import Derived.Lib.AppendStr
import Derived.ArgAppend
import Derived.Laws.IdiomCopy
import Derived.RowKit
import Derived.OrdersHeld
import Derived.Laws.BitsLemmas
import Derived.Laws.StructEq
import Derived.Test.YtkgicpnnlkcaeaaDoorProg
import Derived.Handy
import Derived.Shelf.Unicode.DecodeSlow
import Derived.Ground.NamesProg
import Derived.Shelf.Unicode.ValidAny
import Derived.Maps.OwnOps
import Derived.Maps.Views
import Derived.Laws.RangeString
import Derived.Laws.RangeAny
import Derived.Lib.RuneCount
import Derived.Laws.IdiomStrings
import Derived.Laws.Cover4
import Derived.ProofKit
import Derived.OpenShut
import Derived.ShutString
import Derived.ChangeOld
import Derived.SizedLaws
import Derived.Lib.ValidLaws
import Derived.Test.YtkgicpnnlkcaeaaDoorRows
import Derived.Lib.LaidU8T
import Derived.Lib.LaidIn
import Derived.LaidLaws
import Derived.Test.YtkgicpnnlkcaeaaDoorTie
import Derived.Test.YtkgicpnnlkcaeaaDoorCards
import Derived.Carry
import Derived.ChangeSame
import Derived.ChangeVars
import Derived.JoinedOf
import Derived.SevenTiedAt
section
namespace Go.Proofs.YtkgicpnnlkcaeaaDoor.F
open Go.RowKit Go.Proofs.YtkgicpnnlkcaeaaDoorW.PrintWords Go.Proofs.YtkgicpnnlkcaeaaDoorW.PrintLast Go.Proofs.YtkgicpnnlkcaeaaDoorW.PrintMore
attribute [local go_sem] max2_int min2_int max_two min_two max_three min_three max_four min_four cell_setCell_isSome
set_option linter.unusedVariables false
set_option linter.unusedSimpArgs false
def epitomelaw07_ApplyPlaces.Pure : Prop := ∀ (a0 : ByteArray) (l1 : List (S33)), a0.size ≤ maxLen → (l1.length ≤ maxLen ∧ ∀ x_ ∈ l1, V33 x_) → ∃ k, epitomelaw07_ApplyPlaces.f k a0 l1 = some true
end Go.Proofs.YtkgicpnnlkcaeaaDoor.F
end
section
namespace Go.Proofs.YtkgicpnnlkcaeaaDoor.F
open Go.RowKit Go.Proofs.YtkgicpnnlkcaeaaDoorW.PrintWords Go.Proofs.YtkgicpnnlkcaeaaDoorW.PrintLast Go.Proofs.YtkgicpnnlkcaeaaDoorW.PrintMore
set_option linter.unusedVariables false
set_option linter.unusedSimpArgs false
def wv : List (List Int) → List Bool → List Int → List Int
  | p :: ps, g :: gs, c :: t => p ++ (if g = true then [] else [c]) ++ wv ps gs t
  | p :: _, _, _ => p
  | [], _, _ => []
theorem wv_preq (r : Int) (ps : List (List Int)) (gs : List Bool) (t : List Int) (h : ps ≠ []) : wv (preq [r] ps) gs t = r :: wv ps gs t := by
  rcases ps with _ | ⟨p, ps⟩
  · exact absurd rfl h
  · rcases gs with _ | ⟨g, gs⟩
    · rfl
    · rcases t with _ | ⟨c, t⟩
      · rfl
      · rfl
theorem wv_app : ∀ (x : List U) (t : List Int), cinU x = t.length → wv (gpP x) (gpG x) t = app x t
  | [], t, h => by
    have : t = [] := List.eq_nil_of_length_eq_zero h.symm
    subst this
    rfl
  | .p r :: x, t, h => by rw [gpP, gpG, wv_preq _ _ _ _ (gpP_ne x), wv_app x t h, app]
  | .k :: x, c :: t, h => by
    rw [gpP, gpG, wv, wv_app x t (by simp [cinU] at h; exact h), app]
    rfl
  | .d :: x, c :: t, h => by
    rw [gpP, gpG, wv, wv_app x t (by simp [cinU] at h; exact h), app]
    rfl
  | .k :: x, [], h => by simp [cinU] at h
  | .d :: x, [], h => by simp [cinU] at h
theorem cut_one (pre : List Int) (c : Int) (t : List Int) (h : Runes (pre ++ c :: t)) (hl : (pre ++ c :: t).length ≤ 1099511627776) : points_Cut.f (encT (pre ++ c :: t)) (pre.length : Int) ((pre.length + 1 : Nat) : Int) = some (encT [c], 0) := by
  rw [cut_enc _ h hl pre.length (pre.length + 1) (by omega) (by simp)]
  congr 3
  simp [List.take_append]
theorem places_loop (ps : List (List Int)) (gs : List Bool) (tt : List Int) (a : List Int) (ht : Runes tt) (htl : tt.length ≤ 1000) (hps : ps.length ≤ 1001) : ∀ (r pre : List (List Int)) (g pg : List Bool) (t pt out : List Int),
    ps = pre ++ r → gs = pg ++ g → tt = pt ++ t → pre.length = pg.length → pt.length = pg.length → r.length = g.length + 1 → t.length = g.length → out ++ wv r g t = a → a.length ≤ 1000000 →
    Ev (fun k => epitomelaw07_ApplyPlaces.l0 k (encT tt) (encT a) (encT out) (pre.length : Int) (ps.map encT) gs) true
  | [], pre, g, pg, t, pt, out, h1, h2, h3, h4, h5, h6, h7, h8, h9 => by simp at h6
  | p :: r, pre, g, pg, t, pt, out, h1, h2, h3, h4, h5, h6, h7, h8, h9 => by
    have hlen : ps.length = pre.length + (r.length + 1) := by rw [h1]; simp
    have hlen2 : gs.length = pg.length + g.length := by rw [h2]; simp
    have hrd : rdOf ByteArray.empty (ps.map encT) (pre.length : Int) = encT p := by
      have := rdB_at (ps.map encT) (pre.map encT) (r.map encT) (encT p) (by rw [h1]; simp)
      simpa using this
    have hlt : (pre.length : Int) < ((ps.map encT).length : Int) := by rw [List.length_map]; omega
    have sz := fun l : List Int => (encT_size l).2
    have s1 := sz out
    have s2 := sz p
    rcases g with _ | ⟨g, gr⟩
    · have hr : r = [] := List.eq_nil_of_length_eq_zero (by simpa using h6)
      subst hr
      have ht0 : t = [] := List.eq_nil_of_length_eq_zero h7
      subst ht0
      have hw : out ++ p = a := by simpa [wv] using h8
      have ho : out.length + p.length = a.length := by rw [← hw]; simp
      refine Ev.step (f := fun k => epitomelaw07_ApplyPlaces.j2 k (encT tt) (encT a) (encT a) (pre.length : Int) false (ps.map encT) gs) (fun k => ?_) ?_
      · rw [epitomelaw07_ApplyPlaces.l0, if_pos hlt, if_pos (by omega), hrd, if_pos (by omega), if_neg (by simp at hlen2; omega), ← encT_append, hw]
      · refine Ev.step (f := fun k => epitomelaw07_ApplyPlaces.l0 k (encT tt) (encT a) (encT a) ((pre.length + 1 : Nat) : Int) (ps.map encT) gs) (fun k => ?_) ?_
        · rw [epitomelaw07_ApplyPlaces.j2, if_neg (by simp), w64_succ _ (by omega)]
        · refine Ev.step (f := fun _ => some true) (fun k => ?_) (Ev.now _)
          rw [epitomelaw07_ApplyPlaces.l0, if_neg (by rw [List.length_map]; simp at hlen; omega), beq_self_eq_true]
    · rcases t with _ | ⟨c, t⟩
      · simp at h7
      have hg := rdG_at gs pg gr g h2
      rw [← h4] at hg
      have hlt2 : (pre.length : Int) < (gs.length : Int) := by simp at hlen2; omega
      rw [wv] at h8
      have hla := congrArg List.length h8
      simp only [List.length_append] at hla
      have next : ∀ out2, out2 = out ++ p ++ (if g = true then [] else [c]) → Ev (fun k => epitomelaw07_ApplyPlaces.l0 k (encT tt) (encT a) (encT out2) ((pre.length + 1 : Nat) : Int) (ps.map encT) gs) true := by
        intro out2 e2
        have := places_loop ps gs tt a ht htl hps r (pre ++ [p]) gr (pg ++ [g]) t (pt ++ [c]) out2 (by simp [h1]) (by simp [h2]) (by simp [h3]) (by simp [h4]) (by simp [h5]) (by simpa using h6) (by simpa using h7) (by rw [e2, ← h8]; simp) h9
        simpa using this
      refine Ev.step (f := fun k => epitomelaw07_ApplyPlaces.j2 k (encT tt) (encT a) (encT (out ++ p)) (pre.length : Int) (!g) (ps.map encT) gs) (fun k => ?_) ?_
      · rw [epitomelaw07_ApplyPlaces.l0, if_pos hlt, if_pos (by omega), hrd, if_pos (by omega), if_pos hlt2, hg, ← encT_append]
      · cases g
        · refine Ev.step (f := fun k => _) (fun k => by rw [epitomelaw07_ApplyPlaces.j2, if_pos (show (!false) = true from rfl), w64_succ _ (by omega)]) ?_
          have hcut : points_Cut.f (encT tt) (pre.length : Int) ((pre.length + 1 : Nat) : Int) = some (encT [c], 0) := by
            have := cut_one pt c t (by rw [← h3]; exact ht) (by rw [← h3]; omega)
            rw [← h3, show pt.length = pre.length by omega] at this
            exact this
          refine ev_some hcut (ev_if_pos rfl ?_)
          have s3 := sz (out ++ p)
          have s4 := sz [c]
          simp only [List.length_append] at s3
          refine ev_if_pos (by show (encT (out ++ p)).size + (encT [c]).size ≤ _; simp only [List.length_cons, List.length_nil] at s4; omega) ?_
          rw [← encT_append]
          exact next _ rfl
        · refine Ev.step (f := fun k => _) (fun k => by rw [epitomelaw07_ApplyPlaces.j2, if_neg (by simp), w64_succ _ (by omega)]) ?_
          exact next _ (by simp)
theorem Pure.ApplyPlaces : epitomelaw07_ApplyPlaces.Pure := by
  intro a0 l1 h0 h1
  apply Ev.rounds
  obtain ⟨m1, m2, t, ht, hl, -, hf⟩ := fit01_head a0 60 h0 (by omega)
  obtain ⟨us, hg, mu⟩ := fit04_is l1 h1.1 h1.2 t.length (by omega)
  have fu := made_fit mu (by omega)
  have cu := fu.cin
  have cu2 := fu.cinU
  have ou := fu.coutU
  have al := app_length (exU us) t (by omega)
  have lp := gpP_length (exU us)
  have lg := gpG_length (exU us)
  unfold epitomelaw07_ApplyPlaces.f
  refine Ev.bind shown07 ?_
  refine ev_if_pos m1 (ev_if_pos m2 ?_)
  refine Ev.bind hf ?_
  refine ev_some (count_enc t ht (by omega)) ?_
  refine Ev.bind hg ?_
  refine Ev.bind (applyTo_is fu.ok t ht (by omega)) ?_
  refine Ev.bind (gapsOf_is fu.ok (by omega)) ?_
  refine ev_if_pos rfl (ev_if_pos rfl (ev_if_pos rfl ?_))
  refine ev_some (count_enc t ht (by omega)) ?_
  rw [w64_succ _ (by omega)]
  refine ev_if_pos (by rw [List.length_map]; omega) ?_
  refine ev_some (count_enc t ht (by omega)) ?_
  refine Ev.step (f := fun k => epitomelaw07_ApplyPlaces.l0 k (encT t) (encT (app (exU us) t)) ⟨#[]⟩ 0 ((gpP (exU us)).map encT) (gpG (exU us))) (fun k => ?_) ?_
  · rw [epitomelaw07_ApplyPlaces.j0, if_neg (by simp; omega)]
  · exact places_loop (gpP (exU us)) (gpG (exU us)) t (app (exU us) t) ht (by omega) (by omega) (gpP (exU us)) [] (gpG (exU us)) [] t [] [] rfl rfl rfl rfl rfl (by omega) (by omega) (wv_app _ _ (by omega)) (by omega)
end Go.Proofs.YtkgicpnnlkcaeaaDoor.F
end
section
namespace Go.Proofs.YtkgicpnnlkcaeaaDoor.applyPlaces
open Go.ChangeShapes Go.WideShapes Go.ChangeAt Go.RowKit Go.Proofs.YtkgicpnnlkcaeaaDoor.F
open Go.Proofs.YtkgicpnnlkcaeaaDoorW.PrintWords
open Go.ChangeMaps (open_string shut_string)
set_option linter.unusedVariables false
theorem own : ownKnob Tryd.prog.godebug = none := by kernel_rfl
theorem laidOut : laidOutB Tryd.prog = true := by kernel_rfl
theorem laid_met (os : Os) (args : Array Value) : laidMetH Tryd.prog Rows.applyPlacesRow.laid ((laidWorld os).forCall (fun _ _ => 0) ⟨#[], args, []⟩).memory :=
  (LaidIn.of_run (l := Rows.applyPlacesRow.laid) [2, 0, 1] 8 (by kernel_rfl) (by kernel_rfl) (by kernel_rfl) (by kernel_rfl)).met
set_option maxRecDepth 100000 in
theorem lifted (os : Os) (started : os.Started) (H : Type) (enc : TypeId × Value → H) :
    ReturnsInHanded {} Tryd.checked os 12 .any (fun w args => (Rows.applyPlacesSpec.pre enc Tryd.prog Tryd.f12 [] false w args ∧ laidMetH Tryd.prog Rows.applyPlacesRow.laid w) ∧ sizedMet enc Tryd.prog Tryd.f12 (OpenSpec.ofChange Rows.applyPlacesSpec) false w args) (Rows.applyPlacesSpec.post enc Tryd.prog Tryd.f12 false true false false) := by
  refine returnsInHanded_of_change_and (C := Tryd.checked) (X := (fun w _ => laidMetH Tryd.prog Rows.applyPlacesRow.laid w)) (fun _ _ _ hh h => h.of_heap hh) own started (by kernel_rfl) Tryd.func12
    (ChangeSpec.witness_at (enc := enc) (C := Tryd.checked) (os := os) (X := (fun w _ => laidMetH Tryd.prog Rows.applyPlacesRow.laid w)) false (laidWorld os) #[.string ByteArray.empty, .slice none 0 0] 8 rfl (by kernel_rfl) (by kernel_rfl) (by kernel_rfl) (by kernel_rfl) (by kernel_rfl) (laid_met os _)) ?_
  intro W base args ds gs before hval0 hW _ _ hL _
  have hG : Glob W := glob_of_reads (Lib.laidMet.reads hL (.tail _ (.tail _ (.head _)))) (Lib.laidMet.reads hL (.head _)) (Lib.laidMet.reads hL (.tail _ (.head _)))
  have hval : ∀ (j : Nat) t v, Tryd.f12.params[j]? = some t → args[j]? = some v → Value.okWide Tryd.prog W .any base t v := hval0
  have hW' := hW
  obtain ⟨p, q, hA0, hV, rfl, hfz, hnd⟩ := hW
  have hA : DataW.TrodAll enc Tryd.prog W 0 (fun _ => true) true Tryd.f12.params.toList args.toList ds p := hA0
  rw [Tryd.params12] at hA hval
  obtain ⟨v0, vs0, d0, ds0, p0, q0, hargs, rfl, rfl, h0, r0⟩ := trodAll_cons hA
  obtain ⟨v1, vs1, d1, ds1, p1, q1, rfl, rfl, rfl, h1, r1⟩ := trodAll_cons r0
  obtain ⟨rfl, rfl, rfl⟩ := trodAll_nil r1
  obtain rfl : args = #[v0, v1] := by cases args; simp_all
  obtain ⟨rfl, rfl⟩ := trodVars_none hV
  obtain ⟨a0, rfl, rfl, rfl, hv0⟩ := open_string Tryd.underlying9 (hval 0 9 v0 rfl rfl) h0
  obtain ⟨A1, n1, c1, rfl⟩ := okWide_slice Tryd.underlying34 (hval 1 34 v1 rfl rfl)
  have k1 := h1
  have lt1 : ∀ x ∈ p1, x.block < W.heap.size := by obtain ⟨m, hm⟩ := k1; exact DataW.trod_lt m _ _ _ hm
  obtain ⟨l1, z1, hv1⟩ : ∃ l, (Kd.slice 33 k33).K W l [Value.slice A1 n1 c1] ∧ (fun v_ => (v_.length ≤ maxLen ∧ ∀ x_ ∈ v_, V33 x_)) l := by
    obtain ⟨fuel, hf⟩ := h1
    exact (opens_slice Tryd.underlying34 (by kernel_rfl) opens33) enc W _ _ _ _ _ _ hf
  obtain ⟨A_, c_, e, hc1, hr1⟩ := z1
  simp only [List.cons.injEq, Value.slice.injEq, and_true] at e
  obtain ⟨rfl, rfl, rfl⟩ := e
  obtain ⟨k, h⟩ := Pure.ApplyPlaces a0 l1 hv0 hv1
  refine (epitomelaw07_ApplyPlaces.calls k a0 _ _ l1 true W hG hr1 hc1 h).mono ?_
  rintro e W' ⟨rfl, hd⟩
  have bel : Below W.heap.size W W' := hd
  exact ⟨_, rfl, _, _, _, [], _, [], hW', trodAll_mk1 (shut_bool Tryd.underlying4 _), (trodAll_cons_mk (shut_string Tryd.underlying9 hv0) (trodAll_cons_mk (Below.trod laidOut (by kernel_rfl) (of_decide_eq_true (by kernel_rfl)) k1 bel lt1) trodAll_mk0)), rfl, bel.frame _, fun h => by cases h⟩
theorem over : Rows.applyPlacesRow.holds Tryd.pinned (OpenSpec.ofChange Rows.applyPlacesSpec) :=
  OpenClaim.holds_of_wide 12 Tryd.f12 rfl rfl rfl rfl rfl rfl rfl ⟨rfl, rfl, rfl, rfl, rfl⟩ rfl rfl rfl rfl rfl (by kernel_rfl) Tryd.func12 (by kernel_rfl)
    (of_decide_eq_true (by kernel_rfl)) (by unfold Func.isWrapper; first | (rw [if_pos (by decide +kernel)]; kernel_rfl) | (rw [if_neg (by decide +kernel)]; exact ⟨rfl, rfl⟩))
    (fun os started H enc _ => lifted os started H enc)
theorem card : Claim7.holds Tryd.pinned (.plain (OpenSpec.ofChange Rows.applyPlacesSpec)) Rows.applyPlacesCard :=
  Claim7.holds_tied_plain_at .later [] [.data, .data, .pinned] true (true, "8ebf4b5b935d62fb34083f0ec33522bf7d163fe9f2247210fb781f7bf7557387") false
    over (fun _ h => by cases h) (by kernel_rfl) (fun _ h => by cases h) applyPlaces_row_tie rfl ⟨rfl, rfl⟩ (by kernel_rfl) rfl
    (fun f fn hf hfn => by
      obtain rfl : f = 12 := Option.some.inj ((show Tryd.prog.funcNamed "epitome/epitomelaw07.ApplyPlaces" = some 12 by kernel_rfl).symm.trans hf) |>.symm
      obtain rfl : fn = Tryd.f12 := (Option.some.inj (Tryd.func12.symm.trans hfn)).symm
      exact ⟨by kernel_rfl, fun j t ht => by
        rw [Tryd.params12] at ht
        match j, ht with
        | 0, ht =>
          obtain rfl : t = 9 := by simpa using ht.symm
          exact (show Tryd.prog.wantsStandIn 9 = false by kernel_rfl)
        | 1, ht =>
          obtain rfl : t = 34 := by simpa using ht.symm
          exact (show Tryd.prog.wantsStandIn 34 = false by kernel_rfl)
        | j + 2, ht => simp at ht⟩)
    (by kernel_rfl)
theorem proved : Rows.ApplyPlacesCardSaid := card
end Go.Proofs.YtkgicpnnlkcaeaaDoor.applyPlaces
namespace Go.Proofs.YtkgicpnnlkcaeaaDoor
theorem applyPlaces_holds : Rows.ApplyPlacesCardSaid := applyPlaces.proved
#print axioms applyPlaces_holds
end Go.Proofs.YtkgicpnnlkcaeaaDoor
end
