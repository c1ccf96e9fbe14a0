-- PRINTED by print.py (a twelfth state) out of the translation. Not trusted: Lean checks it.
import Derived.Test.YtljghbgoaaofbaaProg
import Derived.Below
import Derived.Deep.Draws
import Derived.Deep.AppendLies
import Derived.Maps.AppendAt
import Derived.OwnWalk
import Derived.Laws.BytesArg
import Derived.Laws.MakeOwn
import Derived.Laws.OwnMore
import Derived.Deep.OwnRows
import Derived.Tactics
import Derived.Lib.ConvBytes
import Derived.Laws.Slices
import Derived.WalkKit
import Derived.KernelRfl
import Derived.RowKit3
import Derived.Deep.LoopGhost
import Derived.Deep.QuietTactic
import Derived.BigQuiet
import Derived.WideLaws
import Derived.Deep.DeepCutAuto
import Derived.Deep.CutBlock
import Derived.Deep.RegionHeld3
import Derived.Laws.Rows
import Derived.Lib.AppendStr
import Derived.ArgAppend
import Derived.Laws.IdiomCopy
import Derived.OrdersHeld
import Derived.Laws.BitsLemmas
import Derived.RowKit
import Derived.Test.YtljghbgoaaofbaaWireQ
import Derived.Test.YtljghbgoaaofbaaPBasex
import Derived.Test.YtljghbgoaaofbaaWWords
import Derived.Test.YtljghbgoaaofbaaWLast
import Derived.Test.YtljghbgoaaofbaaWTab
import Derived.Test.YtljghbgoaaofbaaWFour
import Derived.Test.YtljghbgoaaofbaaWQPut
import Derived.Test.YtljghbgoaaofbaaWApart
import Derived.Test.YtljghbgoaaofbaaWArr
import Derived.Test.YtljghbgoaaofbaaWZeros
import Derived.Test.YtljghbgoaaofbaaWFoot
import Derived.Test.YtljghbgoaaofbaaWKept
import Derived.Test.YtljghbgoaaofbaaWShare
import Derived.Test.YtljghbgoaaofbaaWN
import Derived.Test.YtljghbgoaaofbaaWFootNe
import Derived.Test.YtljghbgoaaofbaaWAt
import Derived.Test.YtljghbgoaaofbaaWEqStruct
import Derived.Test.YtljghbgoaaofbaaWRepsOne
import Derived.Test.YtljghbgoaaofbaaWInv
import Derived.Test.YtljghbgoaaofbaaWInvWords
import Derived.Test.YtljghbgoaaofbaaWGuard
import Derived.Test.YtljghbgoaaofbaaWNEv
import Derived.Test.YtljghbgoaaofbaaWMore
namespace Go.Proofs.Ytljghbgoaaofbaa.PWireBack
open Go.RowKit Go.Proofs.YtljghbgoaaofbaaW.PrintWords Go.Proofs.YtljghbgoaaofbaaW.PrintLast Go.Proofs.YtljghbgoaaofbaaW.PrintMore
attribute [local go_sem] max2_int min2_int max_two min_two max_three min_three max_four min_four   -- for this text's walks alone
set_option linter.unusedVariables false
set_option linter.unusedSimpArgs false



def errW : Option Int → Value
  | none => .nilIface
  | some c => .iface 0 (.int .i64 c)
theorem errW_none : errW none = .nilIface := rfl
theorem errW_some (c : Int) : errW (some c) = .iface 0 (.int .i64 c) := rfl

theorem info5 : (Try.prog.info? 5).map (fun i => (i.zero, i.size, i.bytes)) = some (some (.int .u8 0), 1, 1) := by kernel_rfl
-- the values' own types

end Go.Proofs.Ytljghbgoaaofbaa.PWireBack
