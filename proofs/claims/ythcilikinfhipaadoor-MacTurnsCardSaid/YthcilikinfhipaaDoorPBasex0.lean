-- PRINTED by print.py (a twelfth state) out of the translation. Not trusted: Lean checks it.
import Derived.Test.YthcilikinfhipaaDoorProg
import Derived.Below
import Derived.Deep.Draws
import Derived.Deep.AppendLies
import Derived.Maps.AppendAt
import Derived.OwnWalk
import Derived.Laws.BytesArg
import Derived.Laws.MakeOwn
import Derived.Laws.OwnMore
import Derived.Deep.OwnRows
import Derived.Tactics
import Derived.Lib.ConvBytes
import Derived.Laws.Slices
import Derived.WalkKit
import Derived.KernelRfl
import Derived.RowKit3
import Derived.Deep.LoopGhost
import Derived.Deep.QuietTactic
import Derived.BigQuiet
import Derived.WideLaws
import Derived.Deep.DeepCutAuto
import Derived.Deep.CutBlock
import Derived.Deep.RegionHeld3
import Derived.Laws.Rows
import Derived.Lib.AppendStr
import Derived.ArgAppend
import Derived.Laws.IdiomCopy
import Derived.OrdersHeld
import Derived.Laws.BitsLemmas
import Derived.RowKit
import Derived.Test.YthcilikinfhipaaDoorWWords
import Derived.Test.YthcilikinfhipaaDoorWLast
import Derived.Test.YthcilikinfhipaaDoorWTab
import Derived.Test.YthcilikinfhipaaDoorWFour
import Derived.Test.YthcilikinfhipaaDoorWQPut
import Derived.Test.YthcilikinfhipaaDoorWApart
import Derived.Test.YthcilikinfhipaaDoorWArr
import Derived.Test.YthcilikinfhipaaDoorWZeros
import Derived.Test.YthcilikinfhipaaDoorWFoot
import Derived.Test.YthcilikinfhipaaDoorWKept
import Derived.Test.YthcilikinfhipaaDoorWShare
import Derived.Test.YthcilikinfhipaaDoorWN
import Derived.Test.YthcilikinfhipaaDoorWFootNe
import Derived.Test.YthcilikinfhipaaDoorWAt
import Derived.Test.YthcilikinfhipaaDoorWEqStruct
import Derived.Test.YthcilikinfhipaaDoorWRepsOne
import Derived.Test.YthcilikinfhipaaDoorWInv
import Derived.Test.YthcilikinfhipaaDoorWInvWords
import Derived.Test.YthcilikinfhipaaDoorWGuard
import Derived.Test.YthcilikinfhipaaDoorWNEv
import Derived.Test.YthcilikinfhipaaDoorWMore
namespace Go.Proofs.YthcilikinfhipaaDoor.PBase
open Go.RowKit Go.Proofs.YthcilikinfhipaaDoorW.PrintWords Go.Proofs.YthcilikinfhipaaDoorW.PrintLast Go.Proofs.YthcilikinfhipaaDoorW.PrintMore
attribute [local go_sem] max2_int min2_int max_two min_two max_three min_three max_four min_four   -- for this text's walks alone
set_option linter.unusedVariables false
set_option linter.unusedSimpArgs false



def errW : Option Int → Value
  | none => .nilIface
  | some c => .iface 0 (.int .i64 c)
theorem errW_none : errW none = .nilIface := rfl
theorem errW_some (c : Int) : errW (some c) = .iface 0 (.int .i64 c) := rfl

theorem info42 : (Tryd.prog.info? 42).map (fun i => (i.zero, i.size, i.bytes)) = some (some (.int .u32 0), 1, 4) := by kernel_rfl
-- the values' own types

end Go.Proofs.YthcilikinfhipaaDoor.PBase
