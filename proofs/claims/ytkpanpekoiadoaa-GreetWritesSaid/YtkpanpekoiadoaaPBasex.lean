-- PRINTED by print.py (a twelfth state) out of the translation. Not trusted: Lean checks it.
import Derived.Test.YtkpanpekoiadoaaPBasex0
import Derived.Test.YtkpanpekoiadoaaPBasex1
import Derived.Test.YtkpanpekoiadoaaPBasex2
import Derived.Test.YtkpanpekoiadoaaPBasex3
import Derived.Test.YtkpanpekoiadoaaPBasex4
namespace Go.Proofs.Ytkpanpekoiadoaa.PBase
open Go.RowKit Go.Proofs.YtkpanpekoiadoaaW.PrintWords Go.Proofs.YtkpanpekoiadoaaW.PrintLast Go.Proofs.YtkpanpekoiadoaaW.PrintMore
attribute [local go_sem] max2_int min2_int max_two min_two max_three min_three max_four min_four   -- for this text's walks alone
set_option linter.unusedVariables false
set_option linter.unusedSimpArgs false

end Go.Proofs.Ytkpanpekoiadoaa.PBase
