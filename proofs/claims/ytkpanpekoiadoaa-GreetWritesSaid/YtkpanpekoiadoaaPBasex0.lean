-- PRINTED by print.py (a twelfth state) out of the translation. Not trusted: Lean checks it.
import Derived.Test.YtkpanpekoiadoaaProg
import Derived.Below
import Derived.Deep.Draws
import Derived.Deep.AppendLies
import Derived.Maps.AppendAt
import Derived.OwnWalk
import Derived.Laws.BytesArg
import Derived.Laws.MakeOwn
import Derived.Laws.OwnMore
import Derived.Deep.OwnRows
import Derived.Tactics
import Derived.Lib.ConvBytes
import Derived.Laws.Slices
import Derived.WalkKit
import Derived.KernelRfl
import Derived.RowKit3
import Derived.Deep.LoopGhost
import Derived.Deep.QuietTactic
import Derived.BigQuiet
import Derived.WideLaws
import Derived.Deep.DeepCutAuto
import Derived.Deep.CutBlock
import Derived.Deep.RegionHeld3
import Derived.Laws.Rows
import Derived.Lib.AppendStr
import Derived.ArgAppend
import Derived.Laws.IdiomCopy
import Derived.OrdersHeld
import Derived.Laws.BitsLemmas
import Derived.RowKit
import Derived.Test.YtkpanpekoiadoaaWireP
import Derived.Test.YtkpanpekoiadoaaWWords
import Derived.Test.YtkpanpekoiadoaaWLast
import Derived.Test.YtkpanpekoiadoaaWTab
import Derived.Test.YtkpanpekoiadoaaWFour
import Derived.Test.YtkpanpekoiadoaaWQPut
import Derived.Test.YtkpanpekoiadoaaWApart
import Derived.Test.YtkpanpekoiadoaaWArr
import Derived.Test.YtkpanpekoiadoaaWZeros
import Derived.Test.YtkpanpekoiadoaaWFoot
import Derived.Test.YtkpanpekoiadoaaWKept
import Derived.Test.YtkpanpekoiadoaaWShare
import Derived.Test.YtkpanpekoiadoaaWN
import Derived.Test.YtkpanpekoiadoaaWFootNe
import Derived.Test.YtkpanpekoiadoaaWAt
import Derived.Test.YtkpanpekoiadoaaWEqStruct
import Derived.Test.YtkpanpekoiadoaaWRepsOne
import Derived.Test.YtkpanpekoiadoaaWInv
import Derived.Test.YtkpanpekoiadoaaWInvWords
import Derived.Test.YtkpanpekoiadoaaWGuard
import Derived.Test.YtkpanpekoiadoaaWNEv
import Derived.Test.YtkpanpekoiadoaaWMore
namespace Go.Proofs.Ytkpanpekoiadoaa.PBase
open Go.RowKit Go.Proofs.YtkpanpekoiadoaaW.PrintWords Go.Proofs.YtkpanpekoiadoaaW.PrintLast Go.Proofs.YtkpanpekoiadoaaW.PrintMore
attribute [local go_sem] max2_int min2_int max_two min_two max_three min_three max_four min_four   -- for this text's walks alone
set_option linter.unusedVariables false
set_option linter.unusedSimpArgs false



def errW : Option Int → Value
  | none => .nilIface
  | some c => .iface 0 (.int .i64 c)
theorem errW_none : errW none = .nilIface := rfl
theorem errW_some (c : Int) : errW (some c) = .iface 0 (.int .i64 c) := rfl

theorem info3 : (Try.prog.info? 3).map (fun i => (i.zero, i.size, i.bytes)) = some (some (.int .i64 0), 1, 8) := by kernel_rfl
theorem info5 : (Try.prog.info? 5).map (fun i => (i.zero, i.size, i.bytes)) = some (some (.int .u8 0), 1, 1) := by kernel_rfl
theorem info24 : (Try.prog.info? 24).map (fun i => (i.zero, i.size, i.bytes)) = some (some (.int .u16 0), 1, 2) := by kernel_rfl
theorem info49 : (Try.prog.info? 49).map (fun i => (i.zero, i.size, i.bytes)) = some (some (.int .u64 0), 1, 8) := by kernel_rfl
-- the values' own types

end Go.Proofs.Ytkpanpekoiadoaa.PBase
