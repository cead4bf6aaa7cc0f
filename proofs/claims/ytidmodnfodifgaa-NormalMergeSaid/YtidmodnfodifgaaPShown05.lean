-- YtidmodnfodifgaaPShown05
import Derived.Test.YtidmodnfodifgaaBase
import Derived.Test.YtidmodnfodifgaaFEpitomelaw05Shown
namespace Go.Proofs.Ytidmodnfodifgaa.F
open Go.RowKit Go.Proofs.YtidmodnfodifgaaW.PrintWords Go.Proofs.YtidmodnfodifgaaW.PrintLast Go.Proofs.YtidmodnfodifgaaW.PrintMore
set_option linter.unusedVariables false
set_option linter.unusedSimpArgs false
theorem shown05 : Ev (fun k => epitomelaw05_shown.f k) true := Ev.of epitomelaw05_shown.mono (k := 40) (by decide +kernel)


end Go.Proofs.Ytidmodnfodifgaa.F
