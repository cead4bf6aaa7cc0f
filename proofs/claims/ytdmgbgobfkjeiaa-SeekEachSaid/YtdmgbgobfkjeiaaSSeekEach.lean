-- the one pure statement of the law SeekEach
import Derived.Test.YtdmgbgobfkjeiaaFEpitomelaw19SeekEach
import Derived.Test.YtdmgbgobfkjeiaaOpenT
namespace Go.Proofs.Ytdmgbgobfkjeiaa.F
open Go.RowKit Go.Proofs.YtdmgbgobfkjeiaaW.PrintWords Go.Proofs.YtdmgbgobfkjeiaaW.PrintLast Go.Proofs.YtdmgbgobfkjeiaaW.PrintMore
attribute [local go_sem] max2_int min2_int max_two min_two max_three min_three max_four min_four
set_option linter.unusedVariables false
set_option linter.unusedSimpArgs false

def epitomelaw19_SeekEach.Pure : Prop := ∀ (l0 : List Int), (l0.length ≤ maxLen ∧ ∀ x_ ∈ l0, (Lit.int .i64 x_).wf = true) → ∃ k, epitomelaw19_SeekEach.f k l0 = some true
end Go.Proofs.Ytdmgbgobfkjeiaa.F
