-- the one pure statement of the law NormalParts
import Derived.Test.YtidmodnfodifgaaFEpitomelaw05NormalParts
import Derived.Test.YtidmodnfodifgaaOpenT
namespace Go.Proofs.Ytidmodnfodifgaa.F
open Go.RowKit Go.Proofs.YtidmodnfodifgaaW.PrintWords Go.Proofs.YtidmodnfodifgaaW.PrintLast Go.Proofs.YtidmodnfodifgaaW.PrintMore
attribute [local go_sem] max2_int min2_int max_two min_two max_three min_three max_four min_four cell_setCell_isSome
set_option linter.unusedVariables false
set_option linter.unusedSimpArgs false

def epitomelaw05_NormalParts.Pure : Prop := ∀ (l0 : List (S31)) (l1 : List (S31)) (a2_0 : Int) (a2_1 : Int) (a2_2 : Int), (l0.length ≤ maxLen ∧ ∀ x_ ∈ l0, V31 x_) → (l1.length ≤ maxLen ∧ ∀ x_ ∈ l1, V31 x_) → (Lit.int .u8 a2_0).wf = true → (Lit.int .u8 a2_1).wf = true → (Lit.int .u8 a2_2).wf = true → ∃ k, epitomelaw05_NormalParts.f k l0 l1 a2_0 a2_1 a2_2 = some true
end Go.Proofs.Ytidmodnfodifgaa.F
