-- PRINTED by print.py (a twelfth state) out of the translation. Not trusted: Lean checks it.
import Derived.Test.YtpbgehgbonilgaaFnx0
import Derived.Test.YtpbgehgbonilgaaFnx1
import Derived.Test.YtpbgehgbonilgaaFnx2
import Derived.Test.YtpbgehgbonilgaaFnx3
namespace Go.Proofs.Ytpbgehgbonilgaa.Fn
open Go.RowKit Go.Proofs.YtpbgehgbonilgaaW.PrintWords Go.Proofs.YtpbgehgbonilgaaW.PrintLast Go.Proofs.YtpbgehgbonilgaaW.PrintMore
attribute [local go_sem] max2_int min2_int max_two min_two max_three min_three max_four min_four   -- for this text's walks alone
set_option linter.unusedVariables false
set_option linter.unusedSimpArgs false

end Go.Proofs.Ytpbgehgbonilgaa.Fn
