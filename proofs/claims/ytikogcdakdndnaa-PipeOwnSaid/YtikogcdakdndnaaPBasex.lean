-- PRINTED by print.py (a twelfth state) out of the translation. Not trusted: Lean checks it.
import Derived.Test.YtikogcdakdndnaaPBasex0
import Derived.Test.YtikogcdakdndnaaPBasex1
namespace Go.Proofs.Ytikogcdakdndnaa.PBase
open Go.RowKit Go.Proofs.YtikogcdakdndnaaW.PrintWords Go.Proofs.YtikogcdakdndnaaW.PrintLast Go.Proofs.YtikogcdakdndnaaW.PrintMore
attribute [local go_sem] max2_int min2_int max_two min_two max_three min_three max_four min_four   -- for this text's walks alone
set_option linter.unusedVariables false
set_option linter.unusedSimpArgs false

end Go.Proofs.Ytikogcdakdndnaa.PBase
