-- the one pure statement of the law NormalOrder
import Derived.Test.YtidmodnfodifgaaFEpitomelaw05NormalOrder
import Derived.Test.YtidmodnfodifgaaOpenT
namespace Go.Proofs.Ytidmodnfodifgaa.F
open Go.RowKit Go.Proofs.YtidmodnfodifgaaW.PrintWords Go.Proofs.YtidmodnfodifgaaW.PrintLast Go.Proofs.YtidmodnfodifgaaW.PrintMore
attribute [local go_sem] max2_int min2_int max_two min_two max_three min_three max_four min_four cell_setCell_isSome
set_option linter.unusedVariables false
set_option linter.unusedSimpArgs false

def epitomelaw05_NormalOrder.Pure : Prop := ∀ (a0_0 : Int) (a0_1 : Int) (a0_2 : Int) (a1 : Int), (Lit.int .u8 a0_0).wf = true → (Lit.int .u8 a0_1).wf = true → (Lit.int .u8 a0_2).wf = true → (Lit.int .u8 a1).wf = true → ∃ k, epitomelaw05_NormalOrder.f k a0_0 a0_1 a0_2 a1 = some true
end Go.Proofs.Ytidmodnfodifgaa.F
