-- the one pure statement of the law NormalAll
import Derived.Test.YtidmodnfodifgaaFEpitomelaw05NormalAll
import Derived.Test.YtidmodnfodifgaaOpenT
namespace Go.Proofs.Ytidmodnfodifgaa.F
open Go.RowKit Go.Proofs.YtidmodnfodifgaaW.PrintWords Go.Proofs.YtidmodnfodifgaaW.PrintLast Go.Proofs.YtidmodnfodifgaaW.PrintMore
attribute [local go_sem] max2_int min2_int max_two min_two max_three min_three max_four min_four cell_setCell_isSome
set_option linter.unusedVariables false
set_option linter.unusedSimpArgs false

def epitomelaw05_NormalAll.Pure : Prop := ∀ (l0 : List (S31)) (a1 : Int), (l0.length ≤ maxLen ∧ ∀ x_ ∈ l0, V31 x_) → (Lit.int .u8 a1).wf = true → ∃ k, epitomelaw05_NormalAll.f k l0 a1 = some true
end Go.Proofs.Ytidmodnfodifgaa.F
