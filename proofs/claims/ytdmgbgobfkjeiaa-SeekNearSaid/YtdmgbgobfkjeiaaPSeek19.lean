-- YtdmgbgobfkjeiaaPSeek19
import Derived.Test.YtdmgbgobfkjeiaaBase
import Derived.Test.YtdmgbgobfkjeiaaHSeek
import Derived.Test.YtdmgbgobfkjeiaaPRef18
namespace Go.Proofs.Ytdmgbgobfkjeiaa.F
open Go.RowKit Go.Proofs.YtdmgbgobfkjeiaaW.PrintWords Go.Proofs.YtdmgbgobfkjeiaaW.PrintLast Go.Proofs.YtdmgbgobfkjeiaaW.PrintMore
set_option linter.unusedVariables false
set_option linter.unusedSimpArgs false
/-! What is told of a revision between two of a row. -/
theorem above_between {w : List Int} (h : Rising w) (r : Int) (i : Nat) (hi : i < w.length) (h1 : w.getD i 0 ≤ r) (h2 : i + 1 < w.length → r < w.getD (i + 1) 0) : above r w = i + 1 := by
  have h3 := (above_iff h r i hi).1 h1
  have hle := above_le r w
  rcases Nat.lt_or_ge (i + 1) w.length with h4 | h4
  · have := above_iff h r (i + 1) h4
    have := h2 h4
    omega
  · omega
theorem told_between {w : List Int} (h : Row w) (r : Int) (i : Nat) (hi : i < w.length) (h1 : w.getD i 0 ≤ r) (h2 : i + 1 < w.length → r < w.getD (i + 1) 0) (h3 : i + 1 = w.length → w.getD i 0 = r) :
    told w r = ((i : Int), w.getD i 0, if w.getD i 0 = r then 0 else 10) := by
  have ha := above_between h.rises r i hi h1 h2
  unfold told
  have hl : ¬ w.getD (w.length - 1) 0 < r := by
    rcases Nat.lt_or_ge (i + 1) w.length with h4 | h4
    · have h5 := h2 h4
      rcases Nat.eq_or_lt_of_le (show i + 1 ≤ w.length - 1 by omega) with e | e
      · rw [← e]; omega
      · have := h.rises (i + 1) (w.length - 1) e (by omega)
        omega
    · have e : w.length - 1 = i := by omega
      rw [e, h3 (by omega)]
      omega
  rw [if_neg hl, if_neg (by omega), ha]
  simp


end Go.Proofs.Ytdmgbgobfkjeiaa.F
