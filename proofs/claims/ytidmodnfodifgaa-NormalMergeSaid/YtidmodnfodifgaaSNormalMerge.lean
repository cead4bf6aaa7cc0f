-- the one pure statement of the law NormalMerge
import Derived.Test.YtidmodnfodifgaaFEpitomelaw05NormalMerge
import Derived.Test.YtidmodnfodifgaaOpenT
namespace Go.Proofs.Ytidmodnfodifgaa.F
open Go.RowKit Go.Proofs.YtidmodnfodifgaaW.PrintWords Go.Proofs.YtidmodnfodifgaaW.PrintLast Go.Proofs.YtidmodnfodifgaaW.PrintMore
attribute [local go_sem] max2_int min2_int max_two min_two max_three min_three max_four min_four cell_setCell_isSome
set_option linter.unusedVariables false
set_option linter.unusedSimpArgs false

def epitomelaw05_NormalMerge.Pure : Prop := ∀ (a0 : ByteArray) (a1_0 : Int) (a1_1 : Int) (a1_2 : Int) (a2 : Int), a0.size ≤ maxLen → (Lit.int .u8 a1_0).wf = true → (Lit.int .u8 a1_1).wf = true → (Lit.int .u8 a1_2).wf = true → (Lit.int .u8 a2).wf = true → ∃ k, epitomelaw05_NormalMerge.f k a0 a1_0 a1_1 a1_2 a2 = some true
end Go.Proofs.Ytidmodnfodifgaa.F
