/- For every input that can be read as data, the Go function epitomelaw05.NormalMerge returns true, and each argument reads afterwards as it read before. No further condition. -/
import Derived.Test.YtidmodnfodifgaaRows
import Derived.Test.YtidmodnfodifgaaSNormalMerge
import Derived.Test.YtidmodnfodifgaaPNormalMerge
import Derived.Test.YtidmodnfodifgaaHOpen
import Derived.Test.YtidmodnfodifgaaOpenT
import Derived.WalkKit
import Derived.ProofKit
import Derived.OpenShut
import Derived.ShutString
import Derived.ChangeOld
import Derived.Below
import Derived.SizedLaws
import Derived.Carry
namespace Go.Proofs.Ytidmodnfodifgaa.normalMerge
open Go.ChangeShapes Go.WideShapes Go.ChangeAt Go.RowKit Go.Proofs.Ytidmodnfodifgaa.F
open Go.Proofs.YtidmodnfodifgaaW.PrintWords
open Go.ChangeMaps (open_string shut_string)
set_option linter.unusedVariables false
theorem own : ownKnob Try.prog.godebug = none := by kernel_rfl
theorem laidOut : laidOutB Try.prog = true := by kernel_rfl
set_option maxRecDepth 100000 in
theorem lifted (os : Os) (started : os.Started) (H : Type) (enc : TypeId × Value → H) :
    ReturnsInHanded {} Try.checked os 6 .any (Rows.normalMergeSpec.pre6 enc Try.prog Try.f6 Rows.normalMergeRow.domain false) (Rows.normalMergeSpec.post enc Try.prog Try.f6 false true false false) := by
  refine returnsInHanded_of_change_sized (C := Try.checked) own started (by kernel_rfl) Try.func6
    (ChangeSpec.witness6 (enc := enc) (C := Try.checked) false ⟨#[], #[.string ByteArray.empty, .agg #[.int .u8 0, .int .u8 0, .int .u8 0], .int .u8 0], []⟩ 8 (by kernel_rfl) (by kernel_rfl) (by kernel_rfl) (by kernel_rfl)) ?_
  intro W base args ds gs before hval0 hW hcnd hsz0 _
  have hval : ∀ (j : Nat) t v, Try.f6.params[j]? = some t → args[j]? = some v → Value.okWide Try.prog W .any base t v := hval0
  have hW' := hW
  obtain ⟨p, q, hA0, hV, rfl, hfz, hnd⟩ := hW
  have hA : DataW.TrodAll enc Try.prog W 0 (fun _ => true) true Try.f6.params.toList args.toList ds p := hA0
  rw [Try.params6] at hA hval
  obtain ⟨v0, vs0, d0, ds0, p0, q0, hargs, rfl, rfl, h0, r0⟩ := trodAll_cons hA
  obtain ⟨v1, vs1, d1, ds1, p1, q1, rfl, rfl, rfl, h1, r1⟩ := trodAll_cons r0
  obtain ⟨v2, vs2, d2, ds2, p2, q2, rfl, rfl, rfl, h2, r2⟩ := trodAll_cons r1
  obtain ⟨rfl, rfl, rfl⟩ := trodAll_nil r2
  obtain rfl : args = #[v0, v1, v2] := by cases args; simp_all
  obtain ⟨rfl, rfl⟩ := trodVars_none hV
  obtain ⟨a0, rfl, rfl, rfl, hv0⟩ := open_string Try.underlying9 (hval 0 9 v0 rfl rfl) h0
  obtain ⟨cs1, rfl⟩ := agg_array Try.underlying29 (hval 1 29 v1 rfl rfl)
  have k1 := h1
  have lt1 : ∀ x ∈ p1, x.block < W.heap.size := by obtain ⟨m, hm⟩ := k1; exact DataW.trod_lt m _ _ _ hm
  obtain ⟨x1, z1, hv1⟩ : ∃ x, k29.K W x cs1.toList ∧ V29 x := by
    obtain ⟨fuel, hf⟩ := h1
    exact opens29 enc W _ _ _ _ _ _ hf
  obtain ⟨c1_0, w1_0, e1_0, h1_0, ⟨c1_1, w1_1, e1_1, h1_1, h1_2⟩⟩ := z1
  have ec1_0 := h1_0
  have ec1_1 := h1_1
  have ec1_2 := h1_2
  obtain rfl : cs1 = #[.int .u8 x1.f0, .int .u8 x1.f1, .int .u8 x1.f2] := by
    apply arr_of (l := [.int .u8 x1.f0, .int .u8 x1.f1, .int .u8 x1.f2])
    rw [e1_0, ec1_0, e1_1, ec1_1, ec1_2]
    rfl
  obtain ⟨b1_0, b1_1, b1_2⟩ := x1
  obtain ⟨a2, rfl, rfl, rfl, hv2⟩ := open_int Try.underlying5 (hval 2 5 v2 rfl rfl) h2
  obtain ⟨k, h⟩ := Pure.NormalMerge a0 b1_0 b1_1 b1_2 a2 hv0 (by exact hv1.1) (by exact hv1.2.1) (by exact hv1.2.2) hv2
  refine (epitomelaw05_NormalMerge.calls k a0 b1_0 b1_1 b1_2 a2 true W  h).mono ?_
  rintro e W' ⟨rfl, hd⟩
  have bel : Below W.heap.size W W' := hd
  exact ⟨_, rfl, _, _, _, [], _, [], hW', trodAll_mk1 (shut_bool Try.underlying4 _), (trodAll_cons_mk (shut_string Try.underlying9 hv0) (trodAll_cons_mk (Below.trod laidOut (by kernel_rfl) (of_decide_eq_true (by kernel_rfl)) k1 bel lt1) (trodAll_cons_mk (shut_int Try.underlying5 hv2) trodAll_mk0))), rfl, bel.frame _, fun h => by cases h⟩
theorem over : Rows.normalMergeRow.holds Try.pinned (OpenSpec.ofChange Rows.normalMergeSpec) :=
  OpenClaim.holds_of_wide 6 Try.f6 rfl rfl rfl rfl rfl rfl rfl ⟨rfl, rfl, rfl, rfl, rfl⟩ rfl rfl rfl rfl rfl (by kernel_rfl) Try.func6 (by kernel_rfl)
    (of_decide_eq_true (by kernel_rfl)) (by unfold Func.isWrapper; first | (rw [if_pos (by decide +kernel)]; kernel_rfl) | (rw [if_neg (by decide +kernel)]; exact ⟨rfl, rfl⟩))
    (fun os started H enc _ => lifted os started H enc)
theorem proved : Rows.NormalMergeSaid := over
end Go.Proofs.Ytidmodnfodifgaa.normalMerge
namespace Go.Proofs.Ytidmodnfodifgaa
/-- The row, under a short name, for the claim. -/
theorem normalMerge_holds : Rows.NormalMergeSaid := normalMerge.proved
#print axioms normalMerge_holds
end Go.Proofs.Ytidmodnfodifgaa
