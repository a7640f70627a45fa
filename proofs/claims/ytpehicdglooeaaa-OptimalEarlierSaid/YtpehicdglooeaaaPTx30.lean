-- Laid by hp.py (a program of this session's) through the kit's printer. (squeezed)
import Derived.Test.YtpehicdglooeaaaPTx0
import Derived.Test.YtpehicdglooeaaaCurve
namespace Go.Proofs.Ytpehicdglooeaaa.PT
open Go.RowKit Go.Proofs.YtpehicdglooeaaaW.PrintWords Go.Proofs.YtpehicdglooeaaaW.PrintLast Go.Proofs.YtpehicdglooeaaaW.PrintMore
attribute [local go_sem] max2_int min2_int max_two min_two max_three min_three max_four min_four   -- for this text's walks alone
set_option linter.unusedVariables false
set_option linter.unusedSimpArgs false
-- HAND 18 optimal_Curve
-- IMPORT Derived.Test.YtpehicdglooeaaaCurve
/- proved by hand in the text that is imported:
def optimal_Curve.f
theorem optimal_Curve.mono
theorem optimal_Curve.calls
-/
end Go.Proofs.Ytpehicdglooeaaa.PT
