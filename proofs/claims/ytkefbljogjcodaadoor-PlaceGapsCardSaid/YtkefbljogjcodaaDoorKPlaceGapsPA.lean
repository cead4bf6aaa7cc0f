import Derived.Test.YtkefbljogjcodaaDoorKCPlaceGapsC
import Derived.Test.YtkefbljogjcodaaDoorKCPlaceGapsPA
import Derived.Below
import Derived.Deep.Draws
import Derived.Deep.AppendLies
import Derived.Maps.AppendAt
import Derived.OwnWalk
import Derived.Laws.BytesArg
import Derived.Laws.MakeOwn
import Derived.Laws.OwnMore
import Derived.Deep.OwnRows
import Derived.Tactics
import Derived.Lib.ConvBytes
import Derived.Laws.Slices
import Derived.WalkKit
import Derived.KernelRfl
import Derived.RowKit3
import Derived.Deep.LoopGhost
import Derived.Deep.QuietTactic
import Derived.BigQuiet
import Derived.WideLaws
import Derived.Deep.DeepCutAuto
import Derived.Deep.CutBlock
import Derived.Deep.RegionHeld3
import Derived.Laws.Rows
import Derived.Lib.AppendStr
import Derived.ArgAppend
import Derived.Laws.IdiomCopy
import Derived.RowKit
import Derived.OrdersHeld
import Derived.Laws.BitsLemmas
import Derived.Laws.StructEq
import Derived.Test.YtkefbljogjcodaaDoorProg
import Derived.Handy
import Derived.Shelf.Unicode.DecodeSlow
import Derived.Ground.NamesProg
import Derived.Shelf.Unicode.ValidAny
import Derived.Laws.RangeString
import Derived.Laws.RangeAny
import Derived.Lib.RuneCount
import Derived.RangeFuncNested
import Derived.RangeFuncBound
import Derived.RangeFuncCalls
import Derived.RangeFuncLeaves
import Derived.Shelf.Abstract
import Derived.Shelf.RegionOpen
import Derived.OwnWalkIn
import Derived.TacticsInMore
import Derived.LoopNIn
import Derived.LoopIn
import Derived.Laws.IdiomStrings
import Derived.Laws.Cover4
import Derived.ProofKit
import Derived.OpenShut
import Derived.ShutString
import Derived.ChangeOld
import Derived.SizedLaws
import Derived.Lib.ValidLaws
import Derived.Test.YtkefbljogjcodaaDoorRows
import Derived.Lib.LaidU8T
import Derived.Lib.LaidIn
import Derived.LaidLaws
import Derived.Test.YtkefbljogjcodaaDoorTie
import Derived.Test.YtkefbljogjcodaaDoorCards
import Derived.Carry
import Derived.ChangeSame
import Derived.ChangeVars
import Derived.JoinedOf
import Derived.SevenTiedAt
section
namespace Go.Proofs.YtkefbljogjcodaaDoor.F
open Go.RowKit Go.Proofs.YtkefbljogjcodaaDoorW.PrintWords Go.Proofs.YtkefbljogjcodaaDoorW.PrintLast Go.Proofs.YtkefbljogjcodaaDoorW.PrintMore
attribute [local go_sem] max2_int min2_int max_two min_two max_three min_three max_four min_four cell_setCell_isSome
set_option linter.unusedVariables false
set_option linter.unusedSimpArgs false
def epitomelaw08_PlaceGaps.Pure : Prop := ∀ (l0 : List (S26)) (a1 : Int), (l0.length ≤ maxLen ∧ ∀ x_ ∈ l0, V26 x_) → (Lit.int .u8 a1).wf = true → ∃ k, epitomelaw08_PlaceGaps.f k l0 a1 = some true
end Go.Proofs.YtkefbljogjcodaaDoor.F
end
section
namespace Go.Proofs.YtkefbljogjcodaaDoor.F
open Go.RowKit Go.Proofs.YtkefbljogjcodaaDoorW.PrintWords Go.Proofs.YtkefbljogjcodaaDoorW.PrintLast Go.Proofs.YtkefbljogjcodaaDoorW.PrintMore
set_option linter.unusedVariables false
set_option linter.unusedSimpArgs false
def keptN : List Bool → Nat
  | [] => 0
  | true :: g => keptN g
  | false :: g => keptN g + 1
theorem keptN_snoc : ∀ (g : List Bool) (b : Bool), keptN (g ++ [b]) = keptN g + (if b = true then 0 else 1)
  | [], b => by cases b <;> rfl
  | true :: g, b => keptN_snoc g b
  | false :: g, b => by
    have := keptN_snoc g b
    show keptN (g ++ [b]) + 1 = keptN g + 1 + _
    omega
theorem where_split : ∀ (x : List U) (pp : List (List Int)) (p : List Int) (ps : List (List Int)) (pg gs : List Bool), gpP x = pp ++ p :: ps → gpG x = pg ++ gs → pp.length = pg.length →
    whereU x pp.length = (pp.map List.length).sum + keptN pg + p.length
  | [], pp, p, ps, pg, gs, h1, h2, h3 => by
    rcases pp with _ | ⟨q, pp⟩
    · simp only [gpP, List.nil_append] at h1
      injection h1 with h1 _
      subst h1
      have : pg = [] := List.eq_nil_of_length_eq_zero h3.symm
      subst this
      rfl
    · simp only [gpP, List.cons_append] at h1
      injection h1 with _ h1
      simp at h1
  | .p r :: x, pp, p, ps, pg, gs, h1, h2, h3 => by
    simp only [gpP] at h1
    have h2' : gpG x = pg ++ gs := h2
    obtain ⟨p0, ps0, e0⟩ : ∃ p0 ps0, gpP x = p0 :: ps0 := by
      cases h : gpP x with
      | nil => exact absurd h (gpP_ne x)
      | cons a b => exact ⟨a, b, rfl⟩
    rw [e0] at h1
    show whereU x pp.length + 1 = _
    rcases pp with _ | ⟨q, pp⟩
    · simp only [preq, List.nil_append] at h1
      injection h1 with h1 h1'
      have ih := where_split x [] p0 ps0 pg gs (by rw [e0]; rfl) h2' h3
      rw [ih, ← h1]
      simp
      omega
    · simp only [preq, List.cons_append] at h1
      injection h1 with h1 h1'
      have ih := where_split x (p0 :: pp) p ps pg gs (by rw [e0, h1']; rfl) h2' h3
      have e : (q :: pp).length = (p0 :: pp).length := rfl
      rw [e, ih, ← h1]
      simp
      omega
  | .k :: x, pp, p, ps, pg, gs, h1, h2, h3 => by
    simp only [gpP] at h1
    simp only [gpG] at h2
    rcases pp with _ | ⟨q, pp⟩
    · simp only [List.nil_append] at h1
      injection h1 with h1 _
      subst h1
      have : pg = [] := List.eq_nil_of_length_eq_zero h3.symm
      subst this
      rfl
    · rcases pg with _ | ⟨g, pg⟩
      · simp at h3
      · simp only [List.cons_append] at h1 h2
        injection h1 with h1 h1'
        injection h2 with h2 h2'
        subst h1 h2
        have ih := where_split x pp p ps pg gs h1' h2' (by simpa using h3)
        show whereU x pp.length + 1 = _
        rw [ih]
        simp [keptN]
        omega
  | .d :: x, pp, p, ps, pg, gs, h1, h2, h3 => by
    simp only [gpP] at h1
    simp only [gpG] at h2
    rcases pp with _ | ⟨q, pp⟩
    · simp only [List.nil_append] at h1
      injection h1 with h1 _
      subst h1
      have : pg = [] := List.eq_nil_of_length_eq_zero h3.symm
      subst this
      rfl
    · rcases pg with _ | ⟨g, pg⟩
      · simp at h3
      · simp only [List.cons_append] at h1 h2
        injection h1 with h1 h1'
        injection h2 with h2 h2'
        subst h1 h2
        have ih := where_split x pp p ps pg gs h1' h2' (by simpa using h3)
        show whereU x pp.length = _
        rw [ih]
        simp [keptN]
theorem rdB_2 (l : List ByteArray) (pre r : List ByteArray) (c : ByteArray) (h : l = pre ++ c :: r) (i : Int) (hi : i = (pre.length : Int)) : rdOf ByteArray.empty l i = c := by
  subst h hi
  unfold rdOf
  simp [List.getD_eq_getElem?_getD]
theorem rdG_2 (l : List Bool) (pre r : List Bool) (c : Bool) (h : l = pre ++ c :: r) (i : Int) (hi : i = (pre.length : Int)) : rdOf false l i = c := by
  subst h hi
  unfold rdOf
  simp [List.getD_eq_getElem?_getD]
set_option maxHeartbeats 1000000 in
theorem gaps_where {us : List Un} (hu : Ok us) {P : List (List Int)} {G : List Bool} {I C : Nat} (hP : gpP (exU us) = P) (hG : gpG (exU us) = G) (hI : (us.map Un.cin).sum = I) (hC : (us.map Un.cout).sum = C) (hIb : I ≤ 1048576) (hCb : C ≤ 1099511627776) (hPI : P.length = I + 1) (hGI : G.length = I) :
    ∀ (ps : List (List Int)) (gs : List Bool) (p : List Int) (pp : List (List Int)) (pg : List Bool) (K : Nat), P = pp ++ p :: ps → G = pg ++ gs → pp.length = pg.length → ps.length = gs.length → K = (pp.map List.length).sum + keptN pg →
    Ev (fun k => epitomelaw08_PlaceGaps.l0 k (us.map Un.sp) (K : Int) (pp.length : Int) (P.map encT) G) true := by
  intro ps
  induction ps with
  | nil =>
    intro gs p pp pg K h1 h2 h3 h4 hK
    obtain rfl : gs = [] := List.eq_nil_of_length_eq_zero (by simpa using h4.symm)
    have hw : whereU (exU us) pp.length = (pp.map List.length).sum + keptN pg + p.length := where_split _ pp p [] pg [] (hP.trans h1) (hG.trans h2) h3
    have wle : whereU (exU us) pp.length ≤ C := by rw [← hC, ← coutU_ex]; exact where_le _ _
    have hpr := gpP_runes (exU us) (runesU_ex us hu.ok) p (by rw [hP, h1]; simp)
    have lP : P.length = pp.length + (1) := by rw [h1]; simp
    have lG : G.length = pg.length + (0) := by rw [h2]; simp
    have pw := placeWhere_is hu pp.length (by rw [hI]; omega)
    have eb := rdB_2 (P.map encT) (pp.map encT) [] (encT p) (by rw [h1]; simp) (pp.length : Int) (by simp)
    have lm : ((P.map encT).length : Int) = ((pp.length + (1) : Nat) : Int) := by rw [List.length_map, lP]
    have we : whereU (exU us) pp.length = C := by
      have := where_end (exU us)
      rw [cinU_ex, hI, coutU_ex, hC, show I = pp.length by omega] at this
      exact this
    have po := placeWhere_out hu (((pp.length + 1 : Nat)) : Int) (.inr (by rw [hI]; omega))
    have eo := opOut_is hu
    rw [hC] at eo
    rw [← hK] at hw
    have ei : wrap64 ((pp.length : Int) + 1) = ((pp.length + 1 : Nat) : Int) := w64_succ pp.length (by omega)
    generalize whereU (exU us) pp.length = W at hw wle pw we
    clear hP hG h1 h2 hK hC hI h4
    subst we
    have q0 : pp.length < P.length := by rw [lP]; exact Nat.lt_add_of_pos_right (Nat.succ_pos _)
    have q1 : (pp.length : Int) < ((P.map encT).length : Int) := by rw [List.length_map]; exact Int.ofNat_lt.2 q0
    have q2 : (0 : Int) ≤ (pp.length : Int) := Int.natCast_nonneg _
    refine Ev.step (f := fun k => (epitomeref01_Count.f k (encT p)).bind fun t117 => (place_Where.f k (us.map Un.sp) (pp.length : Int)).bind fun bt118 => if bt118.1 = wrap64 ((K : Int) + t117) then epitomelaw08_PlaceGaps.j2 k (us.map Un.sp) (wrap64 ((K : Int) + t117)) (pp.length : Int) (bt118.2 != 0) (P.map encT) G else epitomelaw08_PlaceGaps.j2 k (us.map Un.sp) (wrap64 ((K : Int) + t117)) (pp.length : Int) true (P.map encT) G) (fun k => ?_) ?_
    · rw [epitomelaw08_PlaceGaps.l0, if_pos q1, if_pos q2, eb]
    · refine Ev.bind (refCount_enc p hpr (by omega)) (Ev.bind pw ?_)
      have e1 : wrap64 ((K : Int) + (p.length : Int)) = ((W : Nat) : Int) := by rw [w64 (by omega) (by omega)]; omega
      rw [e1]
      refine ev_if_pos rfl ?_
      refine Ev.step (f := fun k => epitomelaw08_PlaceGaps.l0 k (us.map Un.sp) ((W : Nat) : Int) ((pp.length + 1 : Nat) : Int) (P.map encT) G) (fun k => ?_) ?_
      · rw [epitomelaw08_PlaceGaps.j2, if_neg (by simp), if_neg (by omega), ei]
      · refine Ev.step (f := fun k => (place_Where.f k (us.map Un.sp) (((pp.length + 1 : Nat)) : Int)).bind fun bt113 => (op_Out.f k (us.map Un.sp)).bind fun t115 => if ((W : Nat) : Int) = t115 then some (bt113.2 == 6) else some false) (fun k => ?_) ?_
        · rw [epitomelaw08_PlaceGaps.l0, if_neg (by rw [lm]; omega), lm]
        · exact Ev.bind po (Ev.bind eo (ev_if_pos rfl (Ev.now true)))
  | cons p2 ps ih =>
    intro gs p pp pg K h1 h2 h3 h4 hK
    rcases gs with _ | ⟨g, gs⟩
    · simp at h4
    have hw : whereU (exU us) pp.length = (pp.map List.length).sum + keptN pg + p.length := where_split _ pp p (p2 :: ps) pg (g :: gs) (hP.trans h1) (hG.trans h2) h3
    have wle : whereU (exU us) pp.length ≤ C := by rw [← hC, ← coutU_ex]; exact where_le _ _
    have hpr := gpP_runes (exU us) (runesU_ex us hu.ok) p (by rw [hP, h1]; simp)
    have lP : P.length = pp.length + (ps.length + 2) := by rw [h1]; simp
    have lG : G.length = pg.length + (gs.length + 1) := by rw [h2]; simp
    have pw := placeWhere_is hu pp.length (by rw [hI]; omega)
    have eb := rdB_2 (P.map encT) (pp.map encT) ((p2 :: ps).map encT) (encT p) (by rw [h1]; simp) (pp.length : Int) (by simp)
    have lm : ((P.map encT).length : Int) = ((pp.length + (ps.length + 2) : Nat) : Int) := by rw [List.length_map, lP]
    have eg := rdG_2 G pg gs g h2 (pp.length : Int) (by omega)
    rw [← hK] at hw
    have h1' : P = (pp ++ [p]) ++ p2 :: ps := by rw [h1, List.append_assoc]; rfl
    have h2' : G = (pg ++ [g]) ++ gs := by rw [h2, List.append_assoc]; rfl
    have h3' : (pp ++ [p]).length = (pg ++ [g]).length := by rw [List.length_append, List.length_append, h3]; rfl
    have h4' : ps.length = gs.length := Nat.succ.inj h4
    have hS : ((pp ++ [p]).map List.length).sum = (pp.map List.length).sum + p.length := by rw [List.map_append, List.sum_append]; simp
    have hL : ((pp ++ [p]).length : Int) = ((pp.length + 1 : Nat) : Int) := by rw [List.length_append]; rfl
    have ei : wrap64 ((pp.length : Int) + 1) = ((pp.length + 1 : Nat) : Int) := w64_succ pp.length (by omega)
    generalize whereU (exU us) pp.length = W at hw wle pw
    have eW : wrap64 ((W : Int) + 1) = ((W + 1 : Nat) : Int) := w64_succ W (by omega)
    have I1 : ∀ K' : Nat, K' = (pp.map List.length).sum + p.length + keptN (pg ++ [g]) → Ev (fun k => epitomelaw08_PlaceGaps.l0 k (us.map Un.sp) (K' : Int) ((pp.length + 1 : Nat) : Int) (P.map encT) G) true := fun K' hK' => by
      have q := ih gs p2 (pp ++ [p]) (pg ++ [g]) K' h1' h2' h3' h4' (by rw [hS]; exact hK')
      rw [hL] at q
      exact q
    clear h1' h2' h3' h4' hS hL
    have hA : W = (pp.map List.length).sum + p.length + keptN pg := by rw [hw, hK, Nat.add_right_comm]
    have I1t : g = true → Ev (fun k => epitomelaw08_PlaceGaps.l0 k (us.map Un.sp) (W : Int) ((pp.length + 1 : Nat) : Int) (P.map encT) G) true := fun hg => I1 W (by rw [hA, hg, keptN_snoc, if_pos rfl]; rfl)
    have I1f : g = false → Ev (fun k => epitomelaw08_PlaceGaps.l0 k (us.map Un.sp) ((W + 1 : Nat) : Int) ((pp.length + 1 : Nat) : Int) (P.map encT) G) true := fun hg => I1 (W + 1) (by rw [hA, hg, keptN_snoc, if_neg (by decide)]; rfl)
    have hpg : pp.length < G.length := by rw [lG, ← h3]; exact Nat.lt_add_of_pos_right (Nat.succ_pos _)
    have hpG : (pp.length : Int) < (G.length : Int) := Int.ofNat_lt.2 hpg
    clear ih hP hG h1 h2 hC hI I1
    have q0 : pp.length < P.length := by rw [lP]; exact Nat.lt_add_of_pos_right (Nat.succ_pos _)
    have q1 : (pp.length : Int) < ((P.map encT).length : Int) := by rw [List.length_map]; exact Int.ofNat_lt.2 q0
    clear hK hA lm hpg q0 lP lG hPI hGI h4
    have q2 : (0 : Int) ≤ (pp.length : Int) := Int.natCast_nonneg _
    refine Ev.step (f := fun k => (epitomeref01_Count.f k (encT p)).bind fun t117 => (place_Where.f k (us.map Un.sp) (pp.length : Int)).bind fun bt118 => if bt118.1 = wrap64 ((K : Int) + t117) then epitomelaw08_PlaceGaps.j2 k (us.map Un.sp) (wrap64 ((K : Int) + t117)) (pp.length : Int) (bt118.2 != 0) (P.map encT) G else epitomelaw08_PlaceGaps.j2 k (us.map Un.sp) (wrap64 ((K : Int) + t117)) (pp.length : Int) true (P.map encT) G) (fun k => ?_) ?_
    · rw [epitomelaw08_PlaceGaps.l0, if_pos q1, if_pos q2, eb]
    · refine Ev.bind (refCount_enc p hpr (by omega)) (Ev.bind pw ?_)
      have e1 : wrap64 ((K : Int) + (p.length : Int)) = ((W : Nat) : Int) := by rw [w64 (by omega) (by omega)]; omega
      rw [e1]
      refine ev_if_pos rfl ?_
      cases g with
      | true =>
        refine Ev.step (f := fun k => epitomelaw08_PlaceGaps.l0 k (us.map Un.sp) ((W : Nat) : Int) ((pp.length + 1 : Nat) : Int) (P.map encT) G) (fun k => ?_) (I1t rfl)
        rw [epitomelaw08_PlaceGaps.j2, if_neg (by simp), if_pos hpG, if_pos q2, eg, if_pos rfl, ei]
      | false =>
        refine Ev.step (f := fun k => epitomelaw08_PlaceGaps.l0 k (us.map Un.sp) (((W + 1 : Nat)) : Int) ((pp.length + 1 : Nat) : Int) (P.map encT) G) (fun k => ?_) (I1f rfl)
        rw [epitomelaw08_PlaceGaps.j2, if_neg (by simp), if_pos hpG, if_pos q2, eg, if_neg (by decide), eW, ei]
theorem Pure.PlaceGaps : epitomelaw08_PlaceGaps.Pure := by
  intro l0 a h0 h1
  apply Ev.rounds
  obtain ⟨n, hn, en⟩ := rem64 a h1
  obtain ⟨us, hf0, f0⟩ := fitB l0 h0.1 h0.2 n (by omega)
  have i0 := f0.cinU
  have n0 := f0.cin
  have en1 : wrap64 ((n : Int) + 1) = ((n + 1 : Nat) : Int) := w64_succ n (by omega)
  have eg := gapsOf_is f0.ok (by omega)
  have lp := gpP_length (exU us)
  have lg := gpG_length (exU us)
  obtain ⟨p0, ps0, e0⟩ : ∃ p0 ps0, gpP (exU us) = p0 :: ps0 := by
    cases h : gpP (exU us) with
    | nil => exact absurd h (gpP_ne _)
    | cons a b => exact ⟨a, b, rfl⟩
  have lp' : ps0.length = (gpG (exU us)).length := by
    rw [e0, List.length_cons] at lp
    omega
  have hcu := cinU_ex us
  have lo := gaps_where f0.ok rfl rfl rfl rfl f0.ok.cin f0.ok.cout (by omega) (by omega) ps0 (gpG (exU us)) p0 [] [] 0 e0 rfl rfl lp' rfl
  unfold epitomelaw08_PlaceGaps.f
  rw [en, en1]
  refine Ev.bind shown08 (Ev.bind hf0 (Ev.bind eg (ev_if_pos rfl (ev_if_pos rfl (ev_if_pos (by rw [List.length_map]; omega) ?_)))))
  have ez : (((gpG (exU us)).length : Int) != (n : Int)) = false := by
    have : ((gpG (exU us)).length : Int) = (n : Int) := by omega
    simp [this]
  rw [ez]
  refine Ev.step (f := fun k => epitomelaw08_PlaceGaps.l0 k (us.map Un.sp) 0 0 ((gpP (exU us)).map encT) (gpG (exU us))) (fun k => ?_) lo
  rw [epitomelaw08_PlaceGaps.j0, if_neg (by simp)]
end Go.Proofs.YtkefbljogjcodaaDoor.F
end
section
namespace Go.Proofs.YtkefbljogjcodaaDoor.placeGaps
open Go.ChangeShapes Go.WideShapes Go.ChangeAt Go.RowKit Go.Proofs.YtkefbljogjcodaaDoor.F
open Go.Proofs.YtkefbljogjcodaaDoorW.PrintWords
open Go.ChangeMaps (open_string shut_string)
set_option linter.unusedVariables false
theorem own : ownKnob Tryd.prog.godebug = none := by kernel_rfl
theorem laidOut : laidOutB Tryd.prog = true := by kernel_rfl
theorem laid_met (os : Os) (args : Array Value) : laidMetH Tryd.prog Rows.placeGapsRow.laid ((laidWorld os).forCall (fun _ _ => 0) ⟨#[], args, []⟩).memory :=
  (LaidIn.of_run (l := Rows.placeGapsRow.laid) [2, 0, 1] 8 (by kernel_rfl) (by kernel_rfl) (by kernel_rfl) (by kernel_rfl)).met
set_option maxRecDepth 100000 in
theorem lifted (os : Os) (started : os.Started) (H : Type) (enc : TypeId × Value → H) :
    ReturnsInHanded {} Tryd.checked os 9 .any (fun w args => (Rows.placeGapsSpec.pre enc Tryd.prog Tryd.f9 [] false w args ∧ laidMetH Tryd.prog Rows.placeGapsRow.laid w) ∧ sizedMet enc Tryd.prog Tryd.f9 (OpenSpec.ofChange Rows.placeGapsSpec) false w args) (Rows.placeGapsSpec.post enc Tryd.prog Tryd.f9 false true false false) := by
  refine returnsInHanded_of_change_and (C := Tryd.checked) (X := (fun w _ => laidMetH Tryd.prog Rows.placeGapsRow.laid w)) (fun _ _ _ hh h => h.of_heap hh) own started (by kernel_rfl) Tryd.func9
    (ChangeSpec.witness_at (enc := enc) (C := Tryd.checked) (os := os) (X := (fun w _ => laidMetH Tryd.prog Rows.placeGapsRow.laid w)) false (laidWorld os) #[.slice none 0 0, .int .u8 0] 8 rfl (by kernel_rfl) (by kernel_rfl) (by kernel_rfl) (by kernel_rfl) (by kernel_rfl) (laid_met os _)) ?_
  intro W base args ds gs before hval0 hW _ _ hL _
  have hG : Glob W := glob_of_reads (Lib.laidMet.reads hL (.tail _ (.tail _ (.head _)))) (Lib.laidMet.reads hL (.head _)) (Lib.laidMet.reads hL (.tail _ (.head _)))
  have hval : ∀ (j : Nat) t v, Tryd.f9.params[j]? = some t → args[j]? = some v → Value.okWide Tryd.prog W .any base t v := hval0
  have hW' := hW
  obtain ⟨p, q, hA0, hV, rfl, hfz, hnd⟩ := hW
  have hA : DataW.TrodAll enc Tryd.prog W 0 (fun _ => true) true Tryd.f9.params.toList args.toList ds p := hA0
  rw [Tryd.params9] at hA hval
  obtain ⟨v0, vs0, d0, ds0, p0, q0, hargs, rfl, rfl, h0, r0⟩ := trodAll_cons hA
  obtain ⟨v1, vs1, d1, ds1, p1, q1, rfl, rfl, rfl, h1, r1⟩ := trodAll_cons r0
  obtain ⟨rfl, rfl, rfl⟩ := trodAll_nil r1
  obtain rfl : args = #[v0, v1] := by cases args; simp_all
  obtain ⟨rfl, rfl⟩ := trodVars_none hV
  obtain ⟨A0, n0, c0, rfl⟩ := okWide_slice Tryd.underlying27 (hval 0 27 v0 rfl rfl)
  have k0 := h0
  have lt0 : ∀ x ∈ p0, x.block < W.heap.size := by obtain ⟨m, hm⟩ := k0; exact DataW.trod_lt m _ _ _ hm
  obtain ⟨l0, z0, hv0⟩ : ∃ l, (Kd.slice 26 k26).K W l [Value.slice A0 n0 c0] ∧ (fun v_ => (v_.length ≤ maxLen ∧ ∀ x_ ∈ v_, V26 x_)) l := by
    obtain ⟨fuel, hf⟩ := h0
    exact (opens_slice Tryd.underlying27 (by kernel_rfl) opens26) enc W _ _ _ _ _ _ hf
  obtain ⟨A_, c_, e, hc0, hr0⟩ := z0
  simp only [List.cons.injEq, Value.slice.injEq, and_true] at e
  obtain ⟨rfl, rfl, rfl⟩ := e
  obtain ⟨a1, rfl, rfl, rfl, hv1⟩ := open_int Tryd.underlying5 (hval 1 5 v1 rfl rfl) h1
  obtain ⟨k, h⟩ := Pure.PlaceGaps l0 a1 hv0 hv1
  refine (epitomelaw08_PlaceGaps.calls k _ _ l0 a1 true ⟨rfl⟩ W hG hr0 hc0 h).mono ?_
  rintro e W' ⟨rfl, hd⟩
  have bel : Below W.heap.size W W' := hd
  exact ⟨_, rfl, _, _, _, [], _, [], hW', trodAll_mk1 (shut_bool Tryd.underlying4 _), (trodAll_cons_mk (Below.trod laidOut (by kernel_rfl) (of_decide_eq_true (by kernel_rfl)) k0 bel lt0) (trodAll_cons_mk (shut_int Tryd.underlying5 hv1) trodAll_mk0)), rfl, bel.frame _, fun h => by cases h⟩
theorem over : Rows.placeGapsRow.holds Tryd.pinned (OpenSpec.ofChange Rows.placeGapsSpec) :=
  OpenClaim.holds_of_wide 9 Tryd.f9 rfl rfl rfl rfl rfl rfl rfl ⟨rfl, rfl, rfl, rfl, rfl⟩ rfl rfl rfl rfl rfl (by kernel_rfl) Tryd.func9 (by kernel_rfl)
    (of_decide_eq_true (by kernel_rfl)) (by unfold Func.isWrapper; first | (rw [if_pos (by decide +kernel)]; kernel_rfl) | (rw [if_neg (by decide +kernel)]; exact ⟨rfl, rfl⟩))
    (fun os started H enc _ => lifted os started H enc)
theorem card : Claim7.holds Tryd.pinned (.plain (OpenSpec.ofChange Rows.placeGapsSpec)) Rows.placeGapsCard :=
  Claim7.holds_tied_plain_at .later [] [.data, .data, .pinned] true (true, "cb220046ee5715416f27fb58bb862ce5d799745ed337233484527cd9cd290028") false
    over (fun _ h => by cases h) (by kernel_rfl) (fun _ h => by cases h) placeGaps_row_tie rfl ⟨rfl, rfl⟩ (by kernel_rfl) rfl
    (fun f fn hf hfn => by
      obtain rfl : f = 9 := Option.some.inj ((show Tryd.prog.funcNamed "epitome/epitomelaw08.PlaceGaps" = some 9 by kernel_rfl).symm.trans hf) |>.symm
      obtain rfl : fn = Tryd.f9 := (Option.some.inj (Tryd.func9.symm.trans hfn)).symm
      exact ⟨by kernel_rfl, fun j t ht => by
        rw [Tryd.params9] at ht
        match j, ht with
        | 0, ht =>
          obtain rfl : t = 27 := by simpa using ht.symm
          exact (show Tryd.prog.wantsStandIn 27 = false by kernel_rfl)
        | 1, ht =>
          obtain rfl : t = 5 := by simpa using ht.symm
          exact (show Tryd.prog.wantsStandIn 5 = false by kernel_rfl)
        | j + 2, ht => simp at ht⟩)
    (by kernel_rfl)
theorem proved : Rows.PlaceGapsCardSaid := card
end Go.Proofs.YtkefbljogjcodaaDoor.placeGaps
namespace Go.Proofs.YtkefbljogjcodaaDoor
theorem placeGaps_holds : Rows.PlaceGapsCardSaid := placeGaps.proved
#print axioms placeGaps_holds
end Go.Proofs.YtkefbljogjcodaaDoor
end
