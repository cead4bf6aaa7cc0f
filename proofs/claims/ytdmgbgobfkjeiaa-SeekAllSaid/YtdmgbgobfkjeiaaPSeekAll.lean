-- YtdmgbgobfkjeiaaPSeekAll
import Derived.Test.YtdmgbgobfkjeiaaBase
import Derived.Test.YtdmgbgobfkjeiaaFEpitomelaw19SeekAll
import Derived.Test.YtdmgbgobfkjeiaaPRef18
import Derived.Test.YtdmgbgobfkjeiaaSSeekAll
namespace Go.Proofs.Ytdmgbgobfkjeiaa.F
open Go.RowKit Go.Proofs.YtdmgbgobfkjeiaaW.PrintWords Go.Proofs.YtdmgbgobfkjeiaaW.PrintLast Go.Proofs.YtdmgbgobfkjeiaaW.PrintMore
set_option linter.unusedVariables false
set_option linter.unusedSimpArgs false
theorem Pure.SeekAll : epitomelaw19_SeekAll.Pure := by
  intro l0 a1 h0 h1
  obtain ⟨w, hw, hr⟩ := fit_row l0 h0
  apply Ev.rounds
  unfold epitomelaw19_SeekAll.f
  refine ev_some shown19 (Ev.bind hw (ev_some (seek_told hr a1) (Ev.bind (refFind_told hr a1) (ev_some (seek_none a1) ?_))))
  exact ev_if_pos rfl (ev_if_pos rfl (ev_if_pos rfl (ev_if_pos rfl (Ev.now _))))

end Go.Proofs.Ytdmgbgobfkjeiaa.F
