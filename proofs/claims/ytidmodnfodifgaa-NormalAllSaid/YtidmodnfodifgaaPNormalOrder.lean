-- YtidmodnfodifgaaPNormalOrder
import Derived.Test.YtidmodnfodifgaaBase
import Derived.Test.YtidmodnfodifgaaFEpitomelaw05NormalOrder
import Derived.Test.YtidmodnfodifgaaFEpitomelaw05Shown
import Derived.Test.YtidmodnfodifgaaFNormalOf
import Derived.Test.YtidmodnfodifgaaPEv
import Derived.Test.YtidmodnfodifgaaPNormal
import Derived.Test.YtidmodnfodifgaaSNormalOrder
namespace Go.Proofs.Ytidmodnfodifgaa.F
open Go.RowKit Go.Proofs.YtidmodnfodifgaaW.PrintWords Go.Proofs.YtidmodnfodifgaaW.PrintLast Go.Proofs.YtidmodnfodifgaaW.PrintMore
set_option linter.unusedVariables false
set_option linter.unusedSimpArgs false
theorem shown05 : Ev (fun k => epitomelaw05_shown.f k) true := Ev.of epitomelaw05_shown.mono (k := 40) (by decide +kernel)

theorem Pure.NormalOrder : epitomelaw05_NormalOrder.Pure := by
  intro n0 n1 n2 c h0 h1 h2 h3
  apply Ev.rounds
  have g : ∀ x : Int, (Lit.int .u8 x).wf = true → 1 ≤ wrap64 (1 + wrap64 (Int.tmod x 64)) := by
    intro x hx
    have := wf_u8 hx
    have h1 : 0 ≤ Int.tmod x 64 := Int.tmod_nonneg _ this.1
    have h2 : Int.tmod x 64 < 64 := Int.tmod_lt_of_pos _ (by decide)
    rw [w64 (x := Int.tmod x 64) (by omega) (by omega), w64 (by omega) (by omega)]
    omega
  have e0 := g n0 h0
  have e1 := g n1 h1
  have e2 := g n2 h2
  unfold epitomelaw05_NormalOrder.f
  refine Ev.bind shown05 (ev_some rfl ?_)
  generalize wrap64 (1 + wrap64 (Int.tmod n0 64)) = m0 at *
  generalize wrap64 (1 + wrap64 (Int.tmod n1 64)) = m1 at *
  generalize wrap64 (1 + wrap64 (Int.tmod n2 64)) = m2 at *
  have hs : (strOfNums [(97 + Int.tmod c 26) % 256]).toList ≠ [] := by
    rw [ByteArray.toList_eq]
    simp [strOfNums]
  have hz : (strOfNums [(97 + Int.tmod c 26) % 256]).size ≤ 4096 := by simp [strOfNums, ByteArray.size]
  generalize strOfNums [(97 + Int.tmod c 26) % 256] = s at *
  have ne : ∀ m : Int, 1 ≤ m → ∀ x : Int, ∀ t, emptyS ⟨x, m, t⟩ = false := by
    intro m hm x t
    unfold emptyS
    simp
    omega
  have np : ∀ x m : Int, emptyS ⟨x, m, s⟩ = false := by
    intro x m
    unfold emptyS
    simp [hs]
  refine ev_some rfl (ev_some rfl (ev_if_pos rfl ?_))
  have na : ∀ l : List Sp, l.length ≤ 4 → sizeS l ≤ 9223372036854775807 → norm l = l → Ev (fun k => normal_Of.f k l) l := by
    intro l hl hz hn
    have := normal_is l (by omega) hz
    rwa [hn] at this
  have n1' : norm [(⟨1, m0, ⟨#[]⟩⟩ : Sp), ⟨3, m1, ⟨#[]⟩⟩, ⟨2, 0, s⟩, ⟨1, m2, ⟨#[]⟩⟩] = [(⟨1, m0, ⟨#[]⟩⟩ : Sp), ⟨3, m1, ⟨#[]⟩⟩, ⟨2, 0, s⟩, ⟨1, m2, ⟨#[]⟩⟩] := by
    simp [norm, ne m0 e0, ne m1 e1, ne m2 e2, np, mergeS, runs]
  have n2' : norm [(⟨1, m0, ⟨#[]⟩⟩ : Sp), ⟨2, 0, s⟩, ⟨3, m1, ⟨#[]⟩⟩, ⟨1, m2, ⟨#[]⟩⟩] = [(⟨1, m0, ⟨#[]⟩⟩ : Sp), ⟨2, 0, s⟩, ⟨3, m1, ⟨#[]⟩⟩, ⟨1, m2, ⟨#[]⟩⟩] := by
    simp [norm, ne m0 e0, ne m1 e1, ne m2 e2, np, mergeS, runs]
  have za : ByteArray.size ⟨#[]⟩ = 0 := rfl
  have a1 := na _ (by simp) (by simp [sizeS, za]; omega) n1'
  have a2 := na _ (by simp) (by simp [sizeS, za]; omega) n2'
  refine Ev.bind a1 ?_
  refine Ev.bind (same_is _ _ (by simp)) (ev_if_pos (by simp) ?_)
  refine Ev.bind a2 ?_
  refine Ev.bind (same_is _ _ (by simp)) (ev_if_pos (by simp) ?_)
  refine Ev.bind a1 (Ev.bind a2 ?_)
  refine Ev.bind (same_is _ _ (by simp)) ?_
  have : decide ([(⟨1, m0, ⟨#[]⟩⟩ : Sp), ⟨3, m1, ⟨#[]⟩⟩, ⟨2, 0, s⟩, ⟨1, m2, ⟨#[]⟩⟩] = [(⟨1, m0, ⟨#[]⟩⟩ : Sp), ⟨2, 0, s⟩, ⟨3, m1, ⟨#[]⟩⟩, ⟨1, m2, ⟨#[]⟩⟩]) = false := by
    simp
  rw [this]
  exact Ev.now _

end Go.Proofs.Ytidmodnfodifgaa.F
