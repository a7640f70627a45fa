-- Laid by hp.py (a program of this session's) through the kit's printer. (squeezed)
import Derived.Test.YtnfcbhoaebcndaaPTx0
import Derived.Test.YtnfcbhoaebcndaaCount
namespace Go.Proofs.Ytnfcbhoaebcndaa.PT
open Go.RowKit Go.Proofs.YtnfcbhoaebcndaaW.PrintWords Go.Proofs.YtnfcbhoaebcndaaW.PrintLast Go.Proofs.YtnfcbhoaebcndaaW.PrintMore
attribute [local go_sem] max2_int min2_int max_two min_two max_three min_three max_four min_four   -- for this text's walks alone
set_option linter.unusedVariables false
set_option linter.unusedSimpArgs false
-- HAND 24 stats_Seconds
-- IMPORT Derived.Test.YtnfcbhoaebcndaaCount
/- proved by hand in the text that is imported:
def stats_Seconds.f
theorem stats_Seconds.mono
theorem stats_Seconds.calls
-/
end Go.Proofs.Ytnfcbhoaebcndaa.PT
