-- PRINTED by print.py (a twelfth state) out of the translation. Not trusted: Lean checks it.
import Derived.Test.YtljghbgoaaofbaaPBasex0
import Derived.Test.YtljghbgoaaofbaaPBasex1
namespace Go.Proofs.Ytljghbgoaaofbaa.PBase
open Go.RowKit Go.Proofs.YtljghbgoaaofbaaW.PrintWords Go.Proofs.YtljghbgoaaofbaaW.PrintLast Go.Proofs.YtljghbgoaaofbaaW.PrintMore
attribute [local go_sem] max2_int min2_int max_two min_two max_three min_three max_four min_four   -- for this text's walks alone
set_option linter.unusedVariables false
set_option linter.unusedSimpArgs false

end Go.Proofs.Ytljghbgoaaofbaa.PBase
