-- the one pure statement of the law SeekKept
import Derived.Test.YtdmgbgobfkjeiaaFEpitomelaw19SeekKept
import Derived.Test.YtdmgbgobfkjeiaaOpenT
namespace Go.Proofs.Ytdmgbgobfkjeiaa.F
open Go.RowKit Go.Proofs.YtdmgbgobfkjeiaaW.PrintWords Go.Proofs.YtdmgbgobfkjeiaaW.PrintLast Go.Proofs.YtdmgbgobfkjeiaaW.PrintMore
attribute [local go_sem] max2_int min2_int max_two min_two max_three min_three max_four min_four cell_setCell_isSome
set_option linter.unusedVariables false
set_option linter.unusedSimpArgs false

def epitomelaw19_SeekKept.Pure : Prop := ∀ (a0 : Int) (l1 : List Int) (a2 : Int), (Lit.int .u8 a0).wf = true → (l1.length ≤ maxLen ∧ ∀ x_ ∈ l1, (Lit.int .i64 x_).wf = true) → (Lit.int .i64 a2).wf = true → ∃ k, epitomelaw19_SeekKept.f k a0 l1 a2 = some true
end Go.Proofs.Ytdmgbgobfkjeiaa.F
