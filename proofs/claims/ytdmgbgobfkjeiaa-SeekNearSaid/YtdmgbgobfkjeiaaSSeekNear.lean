-- the one pure statement of the law SeekNear
import Derived.Test.YtdmgbgobfkjeiaaFEpitomelaw19SeekNear
import Derived.Test.YtdmgbgobfkjeiaaOpenT
namespace Go.Proofs.Ytdmgbgobfkjeiaa.F
open Go.RowKit Go.Proofs.YtdmgbgobfkjeiaaW.PrintWords Go.Proofs.YtdmgbgobfkjeiaaW.PrintLast Go.Proofs.YtdmgbgobfkjeiaaW.PrintMore
attribute [local go_sem] max2_int min2_int max_two min_two max_three min_three max_four min_four
set_option linter.unusedVariables false
set_option linter.unusedSimpArgs false

def epitomelaw19_SeekNear.Pure : Prop := ∀ (l0 : List Int) (a1 : Int), (l0.length ≤ maxLen ∧ ∀ x_ ∈ l0, (Lit.int .i64 x_).wf = true) → (Lit.int .i64 a1).wf = true → ∃ k, epitomelaw19_SeekNear.f k l0 a1 = some true
end Go.Proofs.Ytdmgbgobfkjeiaa.F
