/- For every input that can be read as data, the Go function epitomelaw05.NormalOrder returns true, and each argument reads afterwards as it read before. No further condition. -/
import Derived.Test.YtidmodnfodifgaaRows
import Derived.Test.YtidmodnfodifgaaSNormalOrder
import Derived.Test.YtidmodnfodifgaaPNormalOrder
import Derived.Test.YtidmodnfodifgaaHOpen
import Derived.Test.YtidmodnfodifgaaOpenT
import Derived.WalkKit
import Derived.ProofKit
import Derived.OpenShut
import Derived.ShutString
import Derived.ChangeOld
import Derived.Below
import Derived.SizedLaws
import Derived.Carry
namespace Go.Proofs.Ytidmodnfodifgaa.normalOrder
open Go.ChangeShapes Go.WideShapes Go.ChangeAt Go.RowKit Go.Proofs.Ytidmodnfodifgaa.F
open Go.Proofs.YtidmodnfodifgaaW.PrintWords
open Go.ChangeMaps (open_string shut_string)
set_option linter.unusedVariables false
theorem own : ownKnob Try.prog.godebug = none := by kernel_rfl
theorem laidOut : laidOutB Try.prog = true := by kernel_rfl
set_option maxRecDepth 100000 in
theorem lifted (os : Os) (started : os.Started) (H : Type) (enc : TypeId × Value → H) :
    ReturnsInHanded {} Try.checked os 5 .any (Rows.normalOrderSpec.pre6 enc Try.prog Try.f5 Rows.normalOrderRow.domain false) (Rows.normalOrderSpec.post enc Try.prog Try.f5 false true false false) := by
  refine returnsInHanded_of_change_sized (C := Try.checked) own started (by kernel_rfl) Try.func5
    (ChangeSpec.witness6 (enc := enc) (C := Try.checked) false ⟨#[], #[.agg #[.int .u8 0, .int .u8 0, .int .u8 0], .int .u8 0], []⟩ 8 (by kernel_rfl) (by kernel_rfl) (by kernel_rfl) (by kernel_rfl)) ?_
  intro W base args ds gs before hval0 hW hcnd hsz0 _
  have hval : ∀ (j : Nat) t v, Try.f5.params[j]? = some t → args[j]? = some v → Value.okWide Try.prog W .any base t v := hval0
  have hW' := hW
  obtain ⟨p, q, hA0, hV, rfl, hfz, hnd⟩ := hW
  have hA : DataW.TrodAll enc Try.prog W 0 (fun _ => true) true Try.f5.params.toList args.toList ds p := hA0
  rw [Try.params5] at hA hval
  obtain ⟨v0, vs0, d0, ds0, p0, q0, hargs, rfl, rfl, h0, r0⟩ := trodAll_cons hA
  obtain ⟨v1, vs1, d1, ds1, p1, q1, rfl, rfl, rfl, h1, r1⟩ := trodAll_cons r0
  obtain ⟨rfl, rfl, rfl⟩ := trodAll_nil r1
  obtain rfl : args = #[v0, v1] := by cases args; simp_all
  obtain ⟨rfl, rfl⟩ := trodVars_none hV
  obtain ⟨cs0, rfl⟩ := agg_array Try.underlying29 (hval 0 29 v0 rfl rfl)
  have k0 := h0
  have lt0 : ∀ x ∈ p0, x.block < W.heap.size := by obtain ⟨m, hm⟩ := k0; exact DataW.trod_lt m _ _ _ hm
  obtain ⟨x0, z0, hv0⟩ : ∃ x, k29.K W x cs0.toList ∧ V29 x := by
    obtain ⟨fuel, hf⟩ := h0
    exact opens29 enc W _ _ _ _ _ _ hf
  obtain ⟨c0_0, w0_0, e0_0, h0_0, ⟨c0_1, w0_1, e0_1, h0_1, h0_2⟩⟩ := z0
  have ec0_0 := h0_0
  have ec0_1 := h0_1
  have ec0_2 := h0_2
  obtain rfl : cs0 = #[.int .u8 x0.f0, .int .u8 x0.f1, .int .u8 x0.f2] := by
    apply arr_of (l := [.int .u8 x0.f0, .int .u8 x0.f1, .int .u8 x0.f2])
    rw [e0_0, ec0_0, e0_1, ec0_1, ec0_2]
    rfl
  obtain ⟨b0_0, b0_1, b0_2⟩ := x0
  obtain ⟨a1, rfl, rfl, rfl, hv1⟩ := open_int Try.underlying5 (hval 1 5 v1 rfl rfl) h1
  obtain ⟨k, h⟩ := Pure.NormalOrder b0_0 b0_1 b0_2 a1 (by exact hv0.1) (by exact hv0.2.1) (by exact hv0.2.2) hv1
  refine (epitomelaw05_NormalOrder.calls k b0_0 b0_1 b0_2 a1 true W  h).mono ?_
  rintro e W' ⟨rfl, hd⟩
  have bel : Below W.heap.size W W' := hd
  exact ⟨_, rfl, _, _, _, [], _, [], hW', trodAll_mk1 (shut_bool Try.underlying4 _), (trodAll_cons_mk (Below.trod laidOut (by kernel_rfl) (of_decide_eq_true (by kernel_rfl)) k0 bel lt0) (trodAll_cons_mk (shut_int Try.underlying5 hv1) trodAll_mk0)), rfl, bel.frame _, fun h => by cases h⟩
theorem over : Rows.normalOrderRow.holds Try.pinned (OpenSpec.ofChange Rows.normalOrderSpec) :=
  OpenClaim.holds_of_wide 5 Try.f5 rfl rfl rfl rfl rfl rfl rfl ⟨rfl, rfl, rfl, rfl, rfl⟩ rfl rfl rfl rfl rfl (by kernel_rfl) Try.func5 (by kernel_rfl)
    (of_decide_eq_true (by kernel_rfl)) (by unfold Func.isWrapper; first | (rw [if_pos (by decide +kernel)]; kernel_rfl) | (rw [if_neg (by decide +kernel)]; exact ⟨rfl, rfl⟩))
    (fun os started H enc _ => lifted os started H enc)
theorem proved : Rows.NormalOrderSaid := over
end Go.Proofs.Ytidmodnfodifgaa.normalOrder
namespace Go.Proofs.Ytidmodnfodifgaa
/-- The row, under a short name, for the claim. -/
theorem normalOrder_holds : Rows.NormalOrderSaid := normalOrder.proved
#print axioms normalOrder_holds
end Go.Proofs.Ytidmodnfodifgaa
