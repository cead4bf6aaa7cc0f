import Derived.Test.YtphbemkdhneklaaDoorKCTD
import Derived.Test.YtphbemkdhneklaaDoorKCTPA
import Derived.Below
import Derived.Deep.Draws
import Derived.Deep.AppendLies
import Derived.Maps.AppendAt
import Derived.OwnWalk
import Derived.Laws.BytesArg
import Derived.Laws.MakeOwn
import Derived.Laws.OwnMore
import Derived.Deep.OwnRows
import Derived.Tactics
import Derived.Lib.ConvBytes
import Derived.Laws.Slices
import Derived.WalkKit
import Derived.KernelRfl
import Derived.RowKit3
import Derived.Deep.LoopGhost
import Derived.Deep.QuietTactic
import Derived.BigQuiet
import Derived.WideLaws
import Derived.Deep.DeepCutAuto
import Derived.Deep.CutBlock
import Derived.Deep.RegionHeld3
import Derived.Laws.Rows
import Derived.Lib.AppendStr
import Derived.ArgAppend
import Derived.Laws.IdiomCopy
import Derived.RowKit
import Derived.OrdersHeld
import Derived.Laws.BitsLemmas
import Derived.Laws.StructEq
import Derived.Test.YtphbemkdhneklaaDoorProg
import Derived.Handy
import Derived.Shelf.Unicode.DecodeSlow
import Derived.Ground.NamesProg
import Derived.Shelf.Unicode.ValidAny
import Derived.Laws.IdiomStrings
import Derived.Laws.Cover4
import Derived.Laws.RangeString
import Derived.Laws.RangeAny
import Derived.Lib.RuneCount
import Derived.Great.BuildSlice
import Derived.Lib.ValidLaws
import Derived.Test.YtphbemkdhneklaaDoorRows
import Derived.Lib.LaidU8T
import Derived.Lib.LaidIn
import Derived.LaidLaws
import Derived.Test.YtphbemkdhneklaaDoorTie
import Derived.Test.YtphbemkdhneklaaDoorCards
import Derived.ProofKit
import Derived.OpenShut
import Derived.ShutString
import Derived.ChangeOld
import Derived.SizedLaws
import Derived.Carry
import Derived.ChangeSame
import Derived.ChangeVars
import Derived.JoinedOf
import Derived.SevenTiedAt
section
namespace Go.Proofs.YtphbemkdhneklaaDoor.F
open Go.RowKit Go.Proofs.YtphbemkdhneklaaDoorW.PrintWords Go.Proofs.YtphbemkdhneklaaDoorW.PrintLast Go.Proofs.YtphbemkdhneklaaDoorW.PrintMore
attribute [local go_sem] max2_int min2_int max_two min_two max_three min_three max_four min_four cell_setCell_isSome
set_option linter.unusedVariables false
set_option linter.unusedSimpArgs false
def epitomelaw09_ComposeEnds.Pure : Prop := ∀ (a0 : ByteArray) (a1 : ByteArray) (a2 : Int), a0.size ≤ maxLen → a1.size ≤ maxLen → (Lit.int .u8 a2).wf = true → ∃ k, epitomelaw09_ComposeEnds.f k a0 a1 a2 = some true
end Go.Proofs.YtphbemkdhneklaaDoor.F
end
section
namespace Go.Proofs.YtphbemkdhneklaaDoor.F
open Go.RowKit Go.Proofs.YtphbemkdhneklaaDoorW.PrintWords Go.Proofs.YtphbemkdhneklaaDoorW.PrintLast Go.Proofs.YtphbemkdhneklaaDoorW.PrintMore
set_option linter.unusedVariables false
set_option linter.unusedSimpArgs false
theorem ends_text (m : Nat) : encT (List.replicate m 97) ++ (⟨#[97]⟩ : ByteArray) = encT (List.replicate (m + 1) 97) := by
  rw [List.replicate_succ', encT_append]
  rfl
theorem ends_loop (m : Nat) (hm : m ≤ 63) (s : List Int) (x14 x16 x18 x19 : List Sp) (h14 : x14 = x18) (h16 : x16 = x19) (l14 : x14.length ≤ 4611686018427387904) (l16 : x16.length ≤ 4611686018427387904) (hA : Ev (fun k => apply_To.f k x16 (encT (List.replicate m 97))) (encT s, 0)) :
    ∀ (d g : Nat), g + d = m → Ev (fun k => epitomelaw09_ComposeEnds.l0 k true (m : Int) (encT s) x14 0 x16 0 x18 x19 (encT (List.replicate g 97)) (g : Int)) true
  | 0, g, h => by
    obtain rfl : g = m := by omega
    subst h14 h16
    have s1 := same_is x14 x14 l14
    have s2 := same_is x16 x16 l16
    rw [decide_eq_true rfl] at s1 s2
    refine Ev.step (f := fun k => (apply_To.f k x16 (encT (List.replicate g 97))).bind fun bt134 => if true = true then (if (0 : Int) = 0 then (if (0 : Int) = 0 then (if bt134.2 = 0 then ((epitomeref04_Same.f k x14 x14).bind fun t136 => if t136 = true then ((epitomeref04_Same.f k x16 x16).bind fun t137 => if t137 = true then some (bt134.1.toList == (encT s).toList) else some false) else some false) else some false) else some false) else some false) else some false) (fun k => by rw [epitomelaw09_ComposeEnds.l0, if_neg (by omega)]) ?_
    refine Ev.bind hA (ev_if_pos rfl (ev_if_pos rfl (ev_if_pos rfl (ev_if_pos rfl (Ev.bind s1 (ev_if_pos rfl (Ev.bind s2 (ev_if_pos rfl ?_))))))))
    rw [beq_self_eq_true]
    exact Ev.now _
  | d + 1, g, h => by
    have ih := ends_loop m hm s x14 x16 x18 x19 h14 h16 l14 l16 hA d (g + 1) (by omega)
    have hz := (encT_size (List.replicate g 97)).2
    rw [List.length_replicate] at hz
    refine Ev.step (f := fun k => epitomelaw09_ComposeEnds.l0 k true (m : Int) (encT s) x14 0 x16 0 x18 x19 (encT (List.replicate (g + 1) 97)) ((g + 1 : Nat) : Int)) (fun k => ?_) ih
    rw [epitomelaw09_ComposeEnds.l0, if_pos (by omega), if_pos (by omega), ends_text, w64_succ _ (by omega)]
theorem Pure.ComposeEnds : epitomelaw09_ComposeEnds.Pure := by
  intro a0 a1 a2 h0 h1 h2
  apply Ev.rounds
  obtain ⟨m, hm, em⟩ := rem64 a2 h2
  have hmn0 := mn_le (a0.size : Int) 20
  have hex0 := extract_size a0 (mn (a0.size : Int) 20).toNat
  have hf0 := fit01_is (a0.extract 0 (mn (a0.size : Int) 20).toNat) (by omega)
  have tl : (fitRunes (a0.extract 0 (mn (a0.size : Int) 20).toNat)).length ≤ 20 := by rw [fitRunes_length]; omega
  have tr : Runes (fitRunes (a0.extract 0 (mn (a0.size : Int) 20).toNat)) := fun r hr => alpha_rune r (fitRunes_mem _ r hr)
  generalize fitRunes (a0.extract 0 (mn (a0.size : Int) 20).toNat) = t at hf0 tl tr
  have hmn1 := mn_le (a1.size : Int) 20
  have hex1 := extract_size a1 (mn (a1.size : Int) 20).toNat
  have hf1 := fit01_is (a1.extract 0 (mn (a1.size : Int) 20).toNat) (by omega)
  have sl : (fitRunes (a1.extract 0 (mn (a1.size : Int) 20).toNat)).length ≤ 20 := by rw [fitRunes_length]; omega
  have sr : Runes (fitRunes (a1.extract 0 (mn (a1.size : Int) 20).toNat)) := fun r hr => alpha_rune r (fitRunes_mem _ r hr)
  generalize fitRunes (a1.extract 0 (mn (a1.size : Int) 20).toNat) = s at hf1 sl sr
  have okU : Ok [.keep m, .put t] := ⟨by intro u hu; simp at hu; rcases hu with rfl | rfl; trivial; exact tr, by simp, by simp [Un.cin]; omega, by simp [Un.cout]; omega⟩
  have okV : Ok [.drop (m + t.length)] := ⟨by intro u hu; simp at hu; subst hu; trivial, by simp, by simp [Un.cin]; omega, by simp [Un.cout]⟩
  have okS : Ok [.put s] := ⟨by intro u hu; simp at hu; subst hu; exact sr, by simp, by simp [Un.cin], by simp [Un.cout]; omega⟩
  have okD : Ok [.drop m] := ⟨by intro u hu; simp at hu; subst hu; trivial, by simp, by simp [Un.cin]; omega, by simp [Un.cout]⟩
  have okSD : Ok [.put s, .drop m] := ⟨by intro u hu; simp at hu; rcases hu with rfl | rfl; exact sr; trivial, by simp, by simp [Un.cin]; omega, by simp [Un.cout]; omega⟩
  have x1 : compU (exU [.keep m, .put t]) (exU [.drop (m + t.length)]) = List.replicate m .d := by
    have e1 : exU [Un.keep m, Un.put t] = List.replicate m .k ++ (t.map .p ++ []) := by simp [exU, Un.ex]
    have e2 : exU [Un.drop (m + t.length)] = List.replicate m .d ++ (List.replicate t.length .d ++ []) := by simp [exU, Un.ex, List.replicate_append_replicate]
    rw [e1, e2, comp_kd, comp_pd, comp_nil, List.append_nil]
  have xd : exU [Un.drop m] = List.replicate m .d := by simp [exU, Un.ex]
  have x2 : compU (exU (canon (exU [Un.drop m]))) (exU [.put s]) = exU [.put s, .drop m] := by
    rw [ex_canon, xd]
    have e1 : exU [Un.put s] = s.map .p ++ [] := by simp [exU, Un.ex]
    have e2 : (List.replicate m U.d) = List.replicate m U.d ++ [] := by simp
    rw [e1, comp_puts, e2, comp_drops m [] [] trivial, comp_nil]
    simp [exU, Un.ex]
  have eC := compose_is okU okV (by simp [Un.cout]; omega) (by simp [Un.cout]) (by simp [Un.cin, Un.cout])
  rw [x1, ← xd] at eC
  have ciD := canon_in (exU [Un.drop m])
  have coD := canon_out (exU [Un.drop m])
  have h3 := cinU_ex [Un.drop m]
  have h4 := coutU_ex [Un.drop m]
  have h5 : ([Un.drop m].map Un.cin).sum = m := by simp [Un.cin]
  have h6 : ([Un.drop m].map Un.cout).sum = 0 := by simp [Un.cout]
  have rD := runesU_ex _ okD.ok
  have rS := runesU_ex _ okSD.ok
  have okC : Ok (canon (exU [Un.drop m])) := canon_ok rD (by omega) (by omega)
  have i5 : ([Un.put s].map Un.cin).sum = 0 := by simp [Un.cin]
  have i6 : ([Un.put s].map Un.cout).sum = s.length := by simp [Un.cout]
  have eC2 := compose_is okC okS (by omega) (by omega) (by omega)
  rw [x2] at eC2
  have j3 := cinU_ex [Un.put s, Un.drop m]
  have j4 := coutU_ex [Un.put s, Un.drop m]
  have j5 : ([Un.put s, Un.drop m].map Un.cin).sum = m := by simp [Un.cin]
  have j6 : ([Un.put s, Un.drop m].map Un.cout).sum = s.length := by simp [Un.cout]
  have okF : Ok (canon (exU [Un.put s, Un.drop m])) := canon_ok rS (by omega) (by omega)
  have ciF := canon_in (exU [Un.put s, Un.drop m])
  have aR : Runes (List.replicate m (97 : Int)) := by
    intro r hr
    rw [(List.mem_replicate.1 hr).2]
    exact .inl (by decide)
  have eA := applyTo_is okF (List.replicate m 97) aR (by rw [List.length_replicate]; omega)
  have xa : app (exU [Un.put s, Un.drop m]) (List.replicate m (97 : Int)) = s := by
    have e1 : exU [Un.put s, Un.drop m] = s.map .p ++ (List.replicate m .d ++ []) := by simp [exU, Un.ex]
    rw [e1, app_put, app_drop m _ _ (by simp)]
    simp [app]
  rw [ex_canon, xa] at eA
  have lD := canon_length (exU [Un.drop m])
  have lD2 := length_two (exU [Un.drop m])
  have lF := canon_length (exU [Un.put s, Un.drop m])
  have lF2 := length_two (exU [Un.put s, Un.drop m])
  have nD := normalOk_is okD
  have nF := normalOk_is okSD
  have hl := ends_loop m hm s ((canon (exU [Un.drop m])).map Un.sp) ((canon (exU [Un.put s, Un.drop m])).map Un.sp) _ _ rfl rfl (by rw [List.length_map]; omega) (by rw [List.length_map]; omega) eA m 0 (by omega)
  unfold epitomelaw09_ComposeEnds.f
  rw [em]
  refine Ev.bind shown09 (ev_if_pos (by omega) (ev_if_pos (by omega) (Ev.bind hf0 (ev_if_pos (by omega) (ev_if_pos (by omega) (Ev.bind hf1 (ev_some (count_enc t tr (by omega)) ?_)))))))
  rw [show wrap64 ((m : Int) + (t.length : Int)) = ((m + t.length : Nat) : Int) by rw [w64 (by omega) (by omega)]; omega]
  exact Ev.bind eC (Ev.bind eC2 (Ev.bind nD (Ev.bind nF hl)))
end Go.Proofs.YtphbemkdhneklaaDoor.F
end
section
namespace Go.Proofs.YtphbemkdhneklaaDoor.composeEnds
open Go.ChangeShapes Go.WideShapes Go.ChangeAt Go.RowKit Go.Proofs.YtphbemkdhneklaaDoor.F
open Go.Proofs.YtphbemkdhneklaaDoorW.PrintWords
open Go.ChangeMaps (open_string shut_string)
set_option linter.unusedVariables false
theorem own : ownKnob Tryd.prog.godebug = none := by kernel_rfl
theorem laidOut : laidOutB Tryd.prog = true := by kernel_rfl
theorem laid_met (os : Os) (args : Array Value) : laidMetH Tryd.prog Rows.composeEndsRow.laid ((laidWorld os).forCall (fun _ _ => 0) ⟨#[], args, []⟩).memory :=
  (LaidIn.of_run (l := Rows.composeEndsRow.laid) [2, 0, 1] 8 (by kernel_rfl) (by kernel_rfl) (by kernel_rfl) (by kernel_rfl)).met
set_option maxRecDepth 100000 in
theorem lifted (os : Os) (started : os.Started) (H : Type) (enc : TypeId × Value → H) :
    ReturnsInHanded {} Tryd.checked os 11 .any (fun w args => (Rows.composeEndsSpec.pre enc Tryd.prog Tryd.f11 [] false w args ∧ laidMetH Tryd.prog Rows.composeEndsRow.laid w) ∧ sizedMet enc Tryd.prog Tryd.f11 (OpenSpec.ofChange Rows.composeEndsSpec) false w args) (Rows.composeEndsSpec.post enc Tryd.prog Tryd.f11 false true false false) := by
  refine returnsInHanded_of_change_and (C := Tryd.checked) (X := (fun w _ => laidMetH Tryd.prog Rows.composeEndsRow.laid w)) (fun _ _ _ hh h => h.of_heap hh) own started (by kernel_rfl) Tryd.func11
    (ChangeSpec.witness_at (enc := enc) (C := Tryd.checked) (os := os) (X := (fun w _ => laidMetH Tryd.prog Rows.composeEndsRow.laid w)) false (laidWorld os) #[.string ByteArray.empty, .string ByteArray.empty, .int .u8 0] 8 rfl (by kernel_rfl) (by kernel_rfl) (by kernel_rfl) (by kernel_rfl) (by kernel_rfl) (laid_met os _)) ?_
  intro W base args ds gs before hval0 hW _ _ hL _
  have hG : Glob W := glob_of_reads (Lib.laidMet.reads hL (.tail _ (.tail _ (.head _)))) (Lib.laidMet.reads hL (.head _)) (Lib.laidMet.reads hL (.tail _ (.head _)))
  have hval : ∀ (j : Nat) t v, Tryd.f11.params[j]? = some t → args[j]? = some v → Value.okWide Tryd.prog W .any base t v := hval0
  have hW' := hW
  obtain ⟨p, q, hA0, hV, rfl, hfz, hnd⟩ := hW
  have hA : DataW.TrodAll enc Tryd.prog W 0 (fun _ => true) true Tryd.f11.params.toList args.toList ds p := hA0
  rw [Tryd.params11] at hA hval
  obtain ⟨v0, vs0, d0, ds0, p0, q0, hargs, rfl, rfl, h0, r0⟩ := trodAll_cons hA
  obtain ⟨v1, vs1, d1, ds1, p1, q1, rfl, rfl, rfl, h1, r1⟩ := trodAll_cons r0
  obtain ⟨v2, vs2, d2, ds2, p2, q2, rfl, rfl, rfl, h2, r2⟩ := trodAll_cons r1
  obtain ⟨rfl, rfl, rfl⟩ := trodAll_nil r2
  obtain rfl : args = #[v0, v1, v2] := by cases args; simp_all
  obtain ⟨rfl, rfl⟩ := trodVars_none hV
  obtain ⟨a0, rfl, rfl, rfl, hv0⟩ := open_string Tryd.underlying9 (hval 0 9 v0 rfl rfl) h0
  obtain ⟨a1, rfl, rfl, rfl, hv1⟩ := open_string Tryd.underlying9 (hval 1 9 v1 rfl rfl) h1
  obtain ⟨a2, rfl, rfl, rfl, hv2⟩ := open_int Tryd.underlying5 (hval 2 5 v2 rfl rfl) h2
  obtain ⟨k, h⟩ := Pure.ComposeEnds a0 a1 a2 hv0 hv1 hv2
  refine (epitomelaw09_ComposeEnds.calls k a0 a1 a2 true W hG  h).mono ?_
  rintro e W' ⟨rfl, hd⟩
  have bel : Below W.heap.size W W' := hd
  exact ⟨_, rfl, _, _, _, [], _, [], hW', trodAll_mk1 (shut_bool Tryd.underlying4 _), (trodAll_cons_mk (shut_string Tryd.underlying9 hv0) (trodAll_cons_mk (shut_string Tryd.underlying9 hv1) (trodAll_cons_mk (shut_int Tryd.underlying5 hv2) trodAll_mk0))), rfl, bel.frame _, fun h => by cases h⟩
theorem over : Rows.composeEndsRow.holds Tryd.pinned (OpenSpec.ofChange Rows.composeEndsSpec) :=
  OpenClaim.holds_of_wide 11 Tryd.f11 rfl rfl rfl rfl rfl rfl rfl ⟨rfl, rfl, rfl, rfl, rfl⟩ rfl rfl rfl rfl rfl (by kernel_rfl) Tryd.func11 (by kernel_rfl)
    (of_decide_eq_true (by kernel_rfl)) (by unfold Func.isWrapper; first | (rw [if_pos (by decide +kernel)]; kernel_rfl) | (rw [if_neg (by decide +kernel)]; exact ⟨rfl, rfl⟩))
    (fun os started H enc _ => lifted os started H enc)
theorem card : Claim7.holds Tryd.pinned (.plain (OpenSpec.ofChange Rows.composeEndsSpec)) Rows.composeEndsCard :=
  Claim7.holds_tied_plain_at .later [] [.data, .data, .pinned] true (true, "b59fba76812983a2edbfeb7dc69721ef72231d0e5408923366ca0978bc32635f") false
    over (fun _ h => by cases h) (by kernel_rfl) (fun _ h => by cases h) composeEnds_row_tie rfl ⟨rfl, rfl⟩ (by kernel_rfl) rfl
    (fun f fn hf hfn => by
      obtain rfl : f = 11 := Option.some.inj ((show Tryd.prog.funcNamed "epitome/epitomelaw09.ComposeEnds" = some 11 by kernel_rfl).symm.trans hf) |>.symm
      obtain rfl : fn = Tryd.f11 := (Option.some.inj (Tryd.func11.symm.trans hfn)).symm
      exact ⟨by kernel_rfl, fun j t ht => by
        rw [Tryd.params11] at ht
        match j, ht with
        | 0, ht =>
          obtain rfl : t = 9 := by simpa using ht.symm
          exact (show Tryd.prog.wantsStandIn 9 = false by kernel_rfl)
        | 1, ht =>
          obtain rfl : t = 9 := by simpa using ht.symm
          exact (show Tryd.prog.wantsStandIn 9 = false by kernel_rfl)
        | 2, ht =>
          obtain rfl : t = 5 := by simpa using ht.symm
          exact (show Tryd.prog.wantsStandIn 5 = false by kernel_rfl)
        | j + 3, ht => simp at ht⟩)
    (by kernel_rfl)
theorem proved : Rows.ComposeEndsCardSaid := card
end Go.Proofs.YtphbemkdhneklaaDoor.composeEnds
namespace Go.Proofs.YtphbemkdhneklaaDoor
theorem composeEnds_holds : Rows.ComposeEndsCardSaid := composeEnds.proved
#print axioms composeEnds_holds
end Go.Proofs.YtphbemkdhneklaaDoor
end
