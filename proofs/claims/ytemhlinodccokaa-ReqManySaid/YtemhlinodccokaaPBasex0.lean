-- PRINTED by print.py (a twelfth state) out of the translation. Not trusted: Lean checks it.
import Derived.Test.YtemhlinodccokaaProg
import Derived.Below
import Derived.Deep.Draws
import Derived.Deep.AppendLies
import Derived.Maps.AppendAt
import Derived.OwnWalk
import Derived.Laws.BytesArg
import Derived.Laws.MakeOwn
import Derived.Laws.OwnMore
import Derived.Deep.OwnRows
import Derived.Tactics
import Derived.Lib.ConvBytes
import Derived.Laws.Slices
import Derived.WalkKit
import Derived.KernelRfl
import Derived.RowKit3
import Derived.Deep.LoopGhost
import Derived.Deep.QuietTactic
import Derived.BigQuiet
import Derived.WideLaws
import Derived.Deep.DeepCutAuto
import Derived.Deep.CutBlock
import Derived.Deep.RegionHeld3
import Derived.Laws.Rows
import Derived.Lib.AppendStr
import Derived.ArgAppend
import Derived.Laws.IdiomCopy
import Derived.OrdersHeld
import Derived.Laws.BitsLemmas
import Derived.RowKit
import Derived.Test.YtemhlinodccokaaWireP
import Derived.Test.YtemhlinodccokaaWWords
import Derived.Test.YtemhlinodccokaaWLast
import Derived.Test.YtemhlinodccokaaWTab
import Derived.Test.YtemhlinodccokaaWFour
import Derived.Test.YtemhlinodccokaaWQPut
import Derived.Test.YtemhlinodccokaaWApart
import Derived.Test.YtemhlinodccokaaWArr
import Derived.Test.YtemhlinodccokaaWZeros
import Derived.Test.YtemhlinodccokaaWFoot
import Derived.Test.YtemhlinodccokaaWKept
import Derived.Test.YtemhlinodccokaaWShare
import Derived.Test.YtemhlinodccokaaWN
import Derived.Test.YtemhlinodccokaaWFootNe
import Derived.Test.YtemhlinodccokaaWAt
import Derived.Test.YtemhlinodccokaaWEqStruct
import Derived.Test.YtemhlinodccokaaWRepsOne
import Derived.Test.YtemhlinodccokaaWInv
import Derived.Test.YtemhlinodccokaaWInvWords
import Derived.Test.YtemhlinodccokaaWGuard
import Derived.Test.YtemhlinodccokaaWNEv
import Derived.Test.YtemhlinodccokaaWMore
namespace Go.Proofs.Ytemhlinodccokaa.PBase
open Go.RowKit Go.Proofs.YtemhlinodccokaaW.PrintWords Go.Proofs.YtemhlinodccokaaW.PrintLast Go.Proofs.YtemhlinodccokaaW.PrintMore
attribute [local go_sem] max2_int min2_int max_two min_two max_three min_three max_four min_four   -- for this text's walks alone
set_option linter.unusedVariables false
set_option linter.unusedSimpArgs false



def errW : Option Int → Value
  | none => .nilIface
  | some c => .iface 0 (.int .i64 c)
theorem errW_none : errW none = .nilIface := rfl
theorem errW_some (c : Int) : errW (some c) = .iface 0 (.int .i64 c) := rfl

theorem info3 : (Try.prog.info? 3).map (fun i => (i.zero, i.size, i.bytes)) = some (some (.int .i64 0), 1, 8) := by kernel_rfl
theorem info5 : (Try.prog.info? 5).map (fun i => (i.zero, i.size, i.bytes)) = some (some (.int .u8 0), 1, 1) := by kernel_rfl
theorem info25 : (Try.prog.info? 25).map (fun i => (i.zero, i.size, i.bytes)) = some (some (.int .u64 0), 1, 8) := by kernel_rfl
-- the values' own types

end Go.Proofs.Ytemhlinodccokaa.PBase
