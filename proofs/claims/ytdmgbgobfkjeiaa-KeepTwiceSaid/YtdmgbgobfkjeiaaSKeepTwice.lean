-- the one pure statement of the law KeepTwice
import Derived.Test.YtdmgbgobfkjeiaaFEpitomelaw18KeepTwice
import Derived.Test.YtdmgbgobfkjeiaaOpenT
namespace Go.Proofs.Ytdmgbgobfkjeiaa.F
open Go.RowKit Go.Proofs.YtdmgbgobfkjeiaaW.PrintWords Go.Proofs.YtdmgbgobfkjeiaaW.PrintLast Go.Proofs.YtdmgbgobfkjeiaaW.PrintMore
attribute [local go_sem] max2_int min2_int max_two min_two max_three min_three max_four min_four
set_option linter.unusedVariables false
set_option linter.unusedSimpArgs false

def epitomelaw18_KeepTwice.Pure : Prop := ∀ (l0 : List Int) (l1 : List Int) (a2_0 : Int) (a2_1 : Int) (a2_2 : Int), (l0.length ≤ maxLen ∧ ∀ x_ ∈ l0, (Lit.int .i64 x_).wf = true) → (l1.length ≤ maxLen ∧ ∀ x_ ∈ l1, (Lit.int .i64 x_).wf = true) → (Lit.int .i64 a2_0).wf = true → (Lit.int .i64 a2_1).wf = true → (Lit.int .u8 a2_2).wf = true → ∃ k, epitomelaw18_KeepTwice.f k l0 l1 a2_0 a2_1 a2_2 = some true
end Go.Proofs.Ytdmgbgobfkjeiaa.F
