-- PRINTED by print.py (a twelfth state) out of the translation. Not trusted: Lean checks it.
import Derived.Test.YtemhlinodccokaaPBasex0
import Derived.Test.YtemhlinodccokaaPBasex1
import Derived.Test.YtemhlinodccokaaPBasex2
import Derived.Test.YtemhlinodccokaaPBasex3
namespace Go.Proofs.Ytemhlinodccokaa.PBase
open Go.RowKit Go.Proofs.YtemhlinodccokaaW.PrintWords Go.Proofs.YtemhlinodccokaaW.PrintLast Go.Proofs.YtemhlinodccokaaW.PrintMore
attribute [local go_sem] max2_int min2_int max_two min_two max_three min_three max_four min_four   -- for this text's walks alone
set_option linter.unusedVariables false
set_option linter.unusedSimpArgs false

end Go.Proofs.Ytemhlinodccokaa.PBase
