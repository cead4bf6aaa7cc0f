import Derived.Test.YtkgicpnnlkcaeaaDoorKGapsLeastA
import Derived.Test.YtkgicpnnlkcaeaaDoorKEPA
import Derived.Below
import Derived.Deep.Draws
import Derived.Deep.AppendLies
import Derived.Maps.AppendAt
import Derived.OwnWalk
import Derived.Laws.BytesArg
import Derived.Laws.MakeOwn
import Derived.Laws.OwnMore
import Derived.Deep.OwnRows
import Derived.Tactics
import Derived.Lib.ConvBytes
import Derived.Laws.Slices
import Derived.WalkKit
import Derived.KernelRfl
import Derived.RowKit3
import Derived.Deep.LoopGhost
import Derived.Deep.QuietTactic
import Derived.BigQuiet
import Derived.WideLaws
import Derived.Deep.DeepCutAuto
import Derived.Deep.CutBlock
import Derived.Deep.RegionHeld3
import Derived.Laws.Rows
import Derived.Lib.AppendStr
import Derived.ArgAppend
import Derived.Laws.IdiomCopy
import Derived.RowKit
import Derived.OrdersHeld
import Derived.Laws.BitsLemmas
import Derived.Laws.StructEq
import Derived.Test.YtkgicpnnlkcaeaaDoorProg
import Derived.Handy
import Derived.Shelf.Unicode.DecodeSlow
import Derived.Ground.NamesProg
import Derived.Shelf.Unicode.ValidAny
import Derived.Maps.OwnOps
import Derived.Maps.Views
import Derived.Laws.RangeString
import Derived.Laws.RangeAny
import Derived.Lib.RuneCount
import Derived.Laws.IdiomStrings
import Derived.Laws.Cover4
import Derived.ProofKit
import Derived.OpenShut
import Derived.ShutString
import Derived.ChangeOld
import Derived.SizedLaws
import Derived.Lib.ValidLaws
import Derived.Test.YtkgicpnnlkcaeaaDoorRows
import Derived.Lib.LaidU8T
import Derived.Lib.LaidIn
import Derived.LaidLaws
import Derived.Test.YtkgicpnnlkcaeaaDoorTie
import Derived.Test.YtkgicpnnlkcaeaaDoorCards
import Derived.Carry
import Derived.ChangeSame
import Derived.ChangeVars
import Derived.JoinedOf
import Derived.SevenTiedAt
section
namespace Go.Proofs.YtkgicpnnlkcaeaaDoor.F
open Go.RowKit Go.Proofs.YtkgicpnnlkcaeaaDoorW.PrintWords Go.Proofs.YtkgicpnnlkcaeaaDoorW.PrintLast Go.Proofs.YtkgicpnnlkcaeaaDoorW.PrintMore
attribute [local go_sem] max2_int min2_int max_two min_two max_three min_three max_four min_four cell_setCell_isSome
set_option linter.unusedVariables false
set_option linter.unusedSimpArgs false
def epitomelaw06_GapsLeast.Pure : Prop := ∀ (l0 : List (S33)) (a1 : Int), (l0.length ≤ maxLen ∧ ∀ x_ ∈ l0, V33 x_) → (Lit.int .u8 a1).wf = true → ∃ k, epitomelaw06_GapsLeast.f k l0 a1 = some true
end Go.Proofs.YtkgicpnnlkcaeaaDoor.F
end
section
namespace Go.Proofs.YtkgicpnnlkcaeaaDoor.F
open Go.RowKit Go.Proofs.YtkgicpnnlkcaeaaDoorW.PrintWords Go.Proofs.YtkgicpnnlkcaeaaDoorW.PrintLast Go.Proofs.YtkgicpnnlkcaeaaDoorW.PrintMore
set_option linter.unusedVariables false
set_option linter.unusedSimpArgs false
def kU : U → Nat
  | .k => 1
  | .p _ => 2
  | .d => 3
def cl : Nat → List U → Nat
  | _, [] => 0
  | kd, u :: x => (if kU u = kd then 0 else 1) + cl (kU u) x
def hdK : List Un → Nat
  | [] => 0
  | u :: _ => kindU u
theorem hdK_cons (u : U) (c : List Un) : hdK (consU u c) = kU u := by
  rcases c with _ | ⟨v, r⟩
  · cases u <;> rfl
  · cases u <;> cases v <;> rfl
theorem consU_len (u : U) (c : List Un) : (consU u c).length = c.length + (if hdK c = kU u then 0 else 1) := by
  rcases c with _ | ⟨v, r⟩
  · cases u <;> rfl
  · cases u <;> cases v <;> rfl
theorem cl_canon : ∀ (x : List U) (kd : Nat), cl kd x + (if kd ≠ 0 ∧ hdK (canon x) = kd then 1 else 0) = (canon x).length
  | [], kd => by
    show 0 + (if kd ≠ 0 ∧ 0 = kd then 1 else 0) = 0
    rw [if_neg (by omega)]
  | u :: x, kd => by
    have ih := cl_canon x (kU u)
    have h1 : kU u ≠ 0 := by cases u <;> simp [kU]
    rw [canon_cons, consU_len, hdK_cons, cl]
    by_cases e1 : hdK (canon x) = kU u
    · rw [if_pos ⟨h1, e1⟩] at ih
      by_cases e2 : kU u = kd
      · rw [if_pos e2, if_pos ⟨by omega, e2⟩, if_pos e1]; omega
      · rw [if_neg e2, if_neg (by omega), if_pos e1]; omega
    · rw [if_neg (by omega)] at ih
      by_cases e2 : kU u = kd
      · rw [if_pos e2, if_pos ⟨by omega, e2⟩, if_neg e1]; omega
      · rw [if_neg e2, if_neg (by omega), if_neg e1]; omega
theorem cl_zero (x : List U) : cl 0 x = (canon x).length := by
  have := cl_canon x 0
  rw [if_neg (by omega)] at this
  omega
theorem cl_put : ∀ (l : List Int) (kd : Nat) (x : List U), kd ≠ 2 → cl kd (l.map .p ++ x) = if l = [] then cl kd x else 1 + cl 2 x
  | [], kd, x, h => by simp
  | r :: l, kd, x, h => by
    have run : ∀ (l : List Int), cl 2 (l.map .p ++ x) = cl 2 x := by
      intro l
      induction l with
      | nil => rfl
      | cons a l ih => rw [List.map_cons, List.cons_append, cl, show kU (U.p a) = 2 from rfl, if_pos rfl, ih]; omega
    rw [List.map_cons, List.cons_append, cl, if_neg (show ¬ kU (U.p r) = kd from fun e => h e.symm), show kU (U.p r) = 2 from rfl, run, if_neg (by simp)]
theorem canon_least : ∀ us : List Un, (canon (exU us)).length ≤ us.length
  | [] => Nat.le_refl _
  | u :: us => by
    have ih := canon_least us
    rw [exU_cons, canon_un]
    generalize canon (exU us) = c at *
    have h : (consUn u c).length ≤ c.length + 1 := by
      rcases c with _ | ⟨v, r⟩
      · cases u with
        | keep n => cases n <;> simp [consUn]
        | put l => cases l <;> simp [consUn]
        | drop n => cases n <;> simp [consUn]
      · cases u with
        | keep n => cases n <;> cases v <;> simp [consUn]
        | put l => cases l <;> cases v <;> simp [consUn]
        | drop n => cases n <;> cases v <;> simp [consUn]
    simp only [List.length_cons]
    omega
theorem least_loop (l0 : List Sp) (out : List Sp) (tot : Nat) (ho : out.length = tot) (hl : tot ≤ l0.length) (hb : tot ≤ 1000000) (ps : List (List Int)) (gs : List Bool) (hz : ps.length ≤ 1000000) :
    ∀ (r pre : List (List Int)) (g pg : List Bool) (kd c : Nat), ps = pre ++ r → gs = pg ++ g → pre.length = pg.length → r.length = g.length + 1 → kd ≠ 2 → c + cl kd (ungp r g) = tot →
    Ev (fun k => epitomelaw06_GapsLeast.l0 k true l0 0 out 0 (c : Int) (kd : Int) (pre.length : Int) (ps.map encT) gs) true
  | [], pre, g, pg, kd, c, h1, h2, h3, h4, h5, h6 => by simp at h4
  | p :: r, pre, g, pg, kd, c, h1, h2, h3, h4, h5, h6 => by
    have hlen : ps.length = pre.length + (r.length + 1) := by rw [h1]; simp
    have hlen2 : gs.length = pg.length + g.length := by rw [h2]; simp
    have hrd : rdOf ByteArray.empty (ps.map encT) (pre.length : Int) = encT p := by
      have := rdB_at (ps.map encT) (pre.map encT) (r.map encT) (encT p) (by rw [h1]; simp)
      simpa using this
    have hlt : (pre.length : Int) < ((ps.map encT).length : Int) := by rw [List.length_map]; omega
    have hc : c ≤ tot := by omega
    -- the text, then the gap
    have two : ∀ (k1 c1 : Nat), c1 + cl k1 (ungp ([] :: r) g) = tot → Ev (fun k => epitomelaw06_GapsLeast.j1 k true l0 0 out 0 (c1 : Int) (k1 : Int) (pre.length : Int) (ps.map encT) gs) true := by
      intro k1 c1 e1
      rcases g with _ | ⟨g, gr⟩
      · have hr : r = [] := List.eq_nil_of_length_eq_zero (by simpa using h4)
        subst hr
        have e2 : c1 = tot := by simpa [ungp, cl] using e1
        refine Ev.step (f := fun k => epitomelaw06_GapsLeast.l0 k true l0 0 out 0 (c1 : Int) (k1 : Int) ((pre.length + 1 : Nat) : Int) (ps.map encT) gs) (fun k => ?_) ?_
        · rw [epitomelaw06_GapsLeast.j1, if_neg (by simp at hlen2; omega), w64_succ _ (by omega)]
        · refine Ev.step (f := fun _ => some true) (fun k => ?_) (Ev.now _)
          rw [epitomelaw06_GapsLeast.l0, if_neg (by rw [List.length_map]; simp at hlen; omega), if_pos rfl, if_pos rfl, if_pos rfl, if_pos (by omega)]
          rw [decide_eq_true (by omega)]
      · have hg := rdG_at gs pg gr g h2
        rw [← h3] at hg
        have hlt2 : (pre.length : Int) < (gs.length : Int) := by simp at hlen2; omega
        have hu : cl k1 (ungp ([] :: r) (g :: gr)) = (if kU (ug g) = k1 then 0 else 1) + cl (kU (ug g)) (ungp r gr) := rfl
        rw [hu] at e1
        have next : ∀ (k2 c2 : Nat), k2 = kU (ug g) → c2 = c1 + (if kU (ug g) = k1 then 0 else 1) → Ev (fun k => epitomelaw06_GapsLeast.l0 k true l0 0 out 0 (c2 : Int) (k2 : Int) ((pre.length + 1 : Nat) : Int) (ps.map encT) gs) true := by
          intro k2 c2 ek ec
          have := least_loop l0 out tot ho hl hb ps gs hz r (pre ++ [p]) gr (pg ++ [g]) k2 c2 (by simp [h1]) (by simp [h2]) (by simp [h3]) (by simpa using h4) (by rw [ek]; cases g <;> simp [ug, kU]) (by rw [ek, ec]; omega)
          simpa using this
        refine Ev.step (f := fun k => _) (fun k => by rw [epitomelaw06_GapsLeast.j1, if_pos hlt2, if_pos (by omega), hg, w64_succ _ (by omega)]) ?_
        cases g
        · refine ev_if_neg (by simp) ?_
          by_cases hk : (1 : Int) = (k1 : Int)
          · refine ev_if_pos hk ?_
            exact next 1 c1 rfl (by rw [if_pos (by show 1 = k1; omega)]; rfl)
          · refine ev_if_neg hk ?_
            rw [w64_succ _ (by omega)]
            exact next 1 (c1 + 1) rfl (by rw [if_neg (by show ¬ 1 = k1; omega)])
        · refine ev_if_pos rfl ?_
          by_cases hk : (3 : Int) = (k1 : Int)
          · refine ev_if_pos hk ?_
            exact next 3 c1 rfl (by rw [if_pos (by show 3 = k1; omega)]; rfl)
          · refine ev_if_neg hk ?_
            rw [w64_succ _ (by omega)]
            exact next 3 (c1 + 1) rfl (by rw [if_neg (by show ¬ 3 = k1; omega)])
    have split : ungp (p :: r) g = p.map .p ++ ungp ([] :: r) g := by cases g <;> simp [ungp]
    rw [split, cl_put _ _ _ h5] at h6
    refine Ev.step (f := fun k => _) (fun k => by rw [epitomelaw06_GapsLeast.l0, if_pos hlt, if_pos (by omega), hrd]) ?_
    by_cases hp : p = []
    · rw [if_pos hp] at h6
      exact ev_if_pos ((encT_none p).2 hp) (two kd c h6)
    · rw [if_neg hp] at h6
      refine ev_if_neg (fun e => hp ((encT_none p).1 e)) ?_
      rw [w64_succ _ (by omega)]
      exact two 2 (c + 1) (by omega)
theorem Pure.GapsLeast : epitomelaw06_GapsLeast.Pure := by
  intro l0 a1 h0 b1
  apply Ev.rounds
  obtain ⟨n, hn, en⟩ := rem64 a1 b1
  obtain ⟨us, hf, mu⟩ := fit04_is l0 h0.1 h0.2 n hn
  have fu := made_fit mu (by omega)
  have cu := fu.cin
  have cu2 := fu.cinU
  have ou := fu.coutU
  have lu := fu.len
  unfold epitomelaw06_GapsLeast.f
  rw [en]
  refine Ev.bind shown06 ?_
  refine Ev.bind hf ?_
  refine Ev.bind (gapsOf_is fu.ok (by omega)) ?_
  refine ev_some (spansBack_is fu.runes (by omega) (by omega)) ?_
  have hle := canon_least us
  have := least_loop (us.map Un.sp) ((canon (exU us)).map Un.sp) (canon (exU us)).length (by simp) (by simpa using hle) (by omega) (gpP (exU us)) (gpG (exU us)) (by rw [gpP_length]; omega)
    (gpP (exU us)) [] (gpG (exU us)) [] 0 0 rfl rfl rfl (by rw [gpP_length, gpG_length]) (by decide) (by rw [ungp_gp, cl_zero]; omega)
  exact this
end Go.Proofs.YtkgicpnnlkcaeaaDoor.F
end
section
namespace Go.Proofs.YtkgicpnnlkcaeaaDoor.gapsLeast
open Go.ChangeShapes Go.WideShapes Go.ChangeAt Go.RowKit Go.Proofs.YtkgicpnnlkcaeaaDoor.F
open Go.Proofs.YtkgicpnnlkcaeaaDoorW.PrintWords
open Go.ChangeMaps (open_string shut_string)
set_option linter.unusedVariables false
theorem own : ownKnob Tryd.prog.godebug = none := by kernel_rfl
theorem laidOut : laidOutB Tryd.prog = true := by kernel_rfl
theorem laid_met (os : Os) (args : Array Value) : laidMetH Tryd.prog Rows.gapsLeastRow.laid ((laidWorld os).forCall (fun _ _ => 0) ⟨#[], args, []⟩).memory :=
  (LaidIn.of_run (l := Rows.gapsLeastRow.laid) [2, 0, 1] 8 (by kernel_rfl) (by kernel_rfl) (by kernel_rfl) (by kernel_rfl)).met
set_option maxRecDepth 100000 in
theorem lifted (os : Os) (started : os.Started) (H : Type) (enc : TypeId × Value → H) :
    ReturnsInHanded {} Tryd.checked os 9 .any (fun w args => (Rows.gapsLeastSpec.pre enc Tryd.prog Tryd.f9 [] false w args ∧ laidMetH Tryd.prog Rows.gapsLeastRow.laid w) ∧ sizedMet enc Tryd.prog Tryd.f9 (OpenSpec.ofChange Rows.gapsLeastSpec) false w args) (Rows.gapsLeastSpec.post enc Tryd.prog Tryd.f9 false true false false) := by
  refine returnsInHanded_of_change_and (C := Tryd.checked) (X := (fun w _ => laidMetH Tryd.prog Rows.gapsLeastRow.laid w)) (fun _ _ _ hh h => h.of_heap hh) own started (by kernel_rfl) Tryd.func9
    (ChangeSpec.witness_at (enc := enc) (C := Tryd.checked) (os := os) (X := (fun w _ => laidMetH Tryd.prog Rows.gapsLeastRow.laid w)) false (laidWorld os) #[.slice none 0 0, .int .u8 0] 8 rfl (by kernel_rfl) (by kernel_rfl) (by kernel_rfl) (by kernel_rfl) (by kernel_rfl) (laid_met os _)) ?_
  intro W base args ds gs before hval0 hW _ _ hL _
  have hG : Glob W := glob_of_reads (Lib.laidMet.reads hL (.tail _ (.tail _ (.head _)))) (Lib.laidMet.reads hL (.head _)) (Lib.laidMet.reads hL (.tail _ (.head _)))
  have hval : ∀ (j : Nat) t v, Tryd.f9.params[j]? = some t → args[j]? = some v → Value.okWide Tryd.prog W .any base t v := hval0
  have hW' := hW
  obtain ⟨p, q, hA0, hV, rfl, hfz, hnd⟩ := hW
  have hA : DataW.TrodAll enc Tryd.prog W 0 (fun _ => true) true Tryd.f9.params.toList args.toList ds p := hA0
  rw [Tryd.params9] at hA hval
  obtain ⟨v0, vs0, d0, ds0, p0, q0, hargs, rfl, rfl, h0, r0⟩ := trodAll_cons hA
  obtain ⟨v1, vs1, d1, ds1, p1, q1, rfl, rfl, rfl, h1, r1⟩ := trodAll_cons r0
  obtain ⟨rfl, rfl, rfl⟩ := trodAll_nil r1
  obtain rfl : args = #[v0, v1] := by cases args; simp_all
  obtain ⟨rfl, rfl⟩ := trodVars_none hV
  obtain ⟨A0, n0, c0, rfl⟩ := okWide_slice Tryd.underlying34 (hval 0 34 v0 rfl rfl)
  have k0 := h0
  have lt0 : ∀ x ∈ p0, x.block < W.heap.size := by obtain ⟨m, hm⟩ := k0; exact DataW.trod_lt m _ _ _ hm
  obtain ⟨l0, z0, hv0⟩ : ∃ l, (Kd.slice 33 k33).K W l [Value.slice A0 n0 c0] ∧ (fun v_ => (v_.length ≤ maxLen ∧ ∀ x_ ∈ v_, V33 x_)) l := by
    obtain ⟨fuel, hf⟩ := h0
    exact (opens_slice Tryd.underlying34 (by kernel_rfl) opens33) enc W _ _ _ _ _ _ hf
  obtain ⟨A_, c_, e, hc0, hr0⟩ := z0
  simp only [List.cons.injEq, Value.slice.injEq, and_true] at e
  obtain ⟨rfl, rfl, rfl⟩ := e
  obtain ⟨a1, rfl, rfl, rfl, hv1⟩ := open_int Tryd.underlying5 (hval 1 5 v1 rfl rfl) h1
  obtain ⟨k, h⟩ := Pure.GapsLeast l0 a1 hv0 hv1
  refine (epitomelaw06_GapsLeast.calls k _ _ l0 a1 true W hG hr0 hc0 h).mono ?_
  rintro e W' ⟨rfl, hd⟩
  have bel : Below W.heap.size W W' := hd
  exact ⟨_, rfl, _, _, _, [], _, [], hW', trodAll_mk1 (shut_bool Tryd.underlying4 _), (trodAll_cons_mk (Below.trod laidOut (by kernel_rfl) (of_decide_eq_true (by kernel_rfl)) k0 bel lt0) (trodAll_cons_mk (shut_int Tryd.underlying5 hv1) trodAll_mk0)), rfl, bel.frame _, fun h => by cases h⟩
theorem over : Rows.gapsLeastRow.holds Tryd.pinned (OpenSpec.ofChange Rows.gapsLeastSpec) :=
  OpenClaim.holds_of_wide 9 Tryd.f9 rfl rfl rfl rfl rfl rfl rfl ⟨rfl, rfl, rfl, rfl, rfl⟩ rfl rfl rfl rfl rfl (by kernel_rfl) Tryd.func9 (by kernel_rfl)
    (of_decide_eq_true (by kernel_rfl)) (by unfold Func.isWrapper; first | (rw [if_pos (by decide +kernel)]; kernel_rfl) | (rw [if_neg (by decide +kernel)]; exact ⟨rfl, rfl⟩))
    (fun os started H enc _ => lifted os started H enc)
theorem card : Claim7.holds Tryd.pinned (.plain (OpenSpec.ofChange Rows.gapsLeastSpec)) Rows.gapsLeastCard :=
  Claim7.holds_tied_plain_at .later [] [.data, .data, .pinned] true (true, "8ebf4b5b935d62fb34083f0ec33522bf7d163fe9f2247210fb781f7bf7557387") false
    over (fun _ h => by cases h) (by kernel_rfl) (fun _ h => by cases h) gapsLeast_row_tie rfl ⟨rfl, rfl⟩ (by kernel_rfl) rfl
    (fun f fn hf hfn => by
      obtain rfl : f = 9 := Option.some.inj ((show Tryd.prog.funcNamed "epitome/epitomelaw06.GapsLeast" = some 9 by kernel_rfl).symm.trans hf) |>.symm
      obtain rfl : fn = Tryd.f9 := (Option.some.inj (Tryd.func9.symm.trans hfn)).symm
      exact ⟨by kernel_rfl, fun j t ht => by
        rw [Tryd.params9] at ht
        match j, ht with
        | 0, ht =>
          obtain rfl : t = 34 := by simpa using ht.symm
          exact (show Tryd.prog.wantsStandIn 34 = false by kernel_rfl)
        | 1, ht =>
          obtain rfl : t = 5 := by simpa using ht.symm
          exact (show Tryd.prog.wantsStandIn 5 = false by kernel_rfl)
        | j + 2, ht => simp at ht⟩)
    (by kernel_rfl)
theorem proved : Rows.GapsLeastCardSaid := card
end Go.Proofs.YtkgicpnnlkcaeaaDoor.gapsLeast
namespace Go.Proofs.YtkgicpnnlkcaeaaDoor
theorem gapsLeast_holds : Rows.GapsLeastCardSaid := gapsLeast.proved
#print axioms gapsLeast_holds
end Go.Proofs.YtkgicpnnlkcaeaaDoor
end
