-- Laid by hp.py (a program of this session's) through the kit's printer. (squeezed)
import Derived.Test.YtpehicdglooeaaaPTx0
import Derived.Test.YtpehicdglooeaaaStop
namespace Go.Proofs.Ytpehicdglooeaaa.PT
open Go.RowKit Go.Proofs.YtpehicdglooeaaaW.PrintWords Go.Proofs.YtpehicdglooeaaaW.PrintLast Go.Proofs.YtpehicdglooeaaaW.PrintMore
attribute [local go_sem] max2_int min2_int max_two min_two max_three min_three max_four min_four   -- for this text's walks alone
set_option linter.unusedVariables false
set_option linter.unusedSimpArgs false
-- HAND 23 optimal_Stop
-- IMPORT Derived.Test.YtpehicdglooeaaaStop
/- proved by hand in the text that is imported:
def optimal_Stop.f
theorem optimal_Stop.mono
theorem optimal_Stop.calls
-/
end Go.Proofs.Ytpehicdglooeaaa.PT
