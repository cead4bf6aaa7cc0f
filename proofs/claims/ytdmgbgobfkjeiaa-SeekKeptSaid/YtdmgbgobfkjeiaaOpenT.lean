-- how the structs of the laws' arguments are opened
import Derived.Test.YtdmgbgobfkjeiaaBase
import Derived.Test.YtdmgbgobfkjeiaaHOpen
namespace Go.Proofs.Ytdmgbgobfkjeiaa.F
open Go.RowKit Go.Proofs.YtdmgbgobfkjeiaaW.PrintWords Go.Proofs.YtdmgbgobfkjeiaaW.PrintLast Go.Proofs.YtdmgbgobfkjeiaaW.PrintMore
attribute [local go_sem] max2_int min2_int max_two min_two max_three min_three max_four min_four cell_setCell_isSome
set_option linter.unusedVariables false
set_option linter.unusedSimpArgs false

def V31 (x : S31) : Prop := ((Lit.int .i64 x.f0).wf = true) ∧ ((Lit.int .i64 x.f1).wf = true) ∧ ((Lit.int .u8 x.f2).wf = true)
set_option maxRecDepth 10000 in
theorem opens31 : Opens Try.prog 31 k31 V31 := by
  intro H enc w base spare held fuel cs x h
  obtain ⟨xs, n, rfl, rfl, hlen, hxs, hf⟩ := DataW.trod_struct Try.underlying31 h
  have hl : cs.length = 3 := hlen.trans (by kernel_rfl)
  have hx : xs.length = 3 := hxs
  have h0 := hf 0 _ rfl
  rw [List.getElem?_eq_getElem (show 0 < xs.length by omega)] at h0
  obtain ⟨v0, k0, p0⟩ := (opens_int Try.underlying3) enc w base spare held n _ _ h0
  have h1 := hf 1 _ rfl
  rw [List.getElem?_eq_getElem (show 1 < xs.length by omega)] at h1
  obtain ⟨v1, k1, p1⟩ := (opens_int Try.underlying3) enc w base spare held n _ _ h1
  have h2 := hf 2 _ rfl
  rw [List.getElem?_eq_getElem (show 2 < xs.length by omega)] at h2
  obtain ⟨v2, k2, p2⟩ := (opens_int Try.underlying5) enc w base spare held n _ _ h2
  refine ⟨⟨v0, v1, v2⟩, ?_, ⟨p0, p1, p2⟩⟩
  have e2 : cs = (cs.drop 0).take 1 ++ ((cs.drop 1).take 1 ++ ((cs.drop 2).take 1)) := by
    match cs, hl with
    | [c0, c1, c2], _ => rfl
  rw [e2]
  exact ⟨_, _, rfl, (show ((Kd.int .i64)).K w _ ((cs.drop 0).take 1) from k0), ⟨_, _, rfl, (show ((Kd.int .i64)).K w _ ((cs.drop 1).take 1) from k1), (show ((Kd.int .u8)).K w _ ((cs.drop 2).take 1) from k2)⟩⟩
end Go.Proofs.Ytdmgbgobfkjeiaa.F
