-- PRINTED by print.py (a twelfth state) out of the translation. Not trusted: Lean checks it.
import Derived.Test.YtojecbigcamedaaProg
import Derived.Below
import Derived.Deep.Draws
import Derived.Deep.AppendLies
import Derived.Maps.AppendAt
import Derived.OwnWalk
import Derived.Laws.BytesArg
import Derived.Laws.MakeOwn
import Derived.Laws.OwnMore
import Derived.Deep.OwnRows
import Derived.Tactics
import Derived.Lib.ConvBytes
import Derived.Laws.Slices
import Derived.WalkKit
import Derived.KernelRfl
import Derived.RowKit3
import Derived.Deep.LoopGhost
import Derived.Deep.QuietTactic
import Derived.BigQuiet
import Derived.WideLaws
import Derived.Deep.DeepCutAuto
import Derived.Deep.CutBlock
import Derived.Deep.RegionHeld3
import Derived.Laws.Rows
import Derived.Lib.AppendStr
import Derived.ArgAppend
import Derived.Laws.IdiomCopy
import Derived.OrdersHeld
import Derived.Laws.BitsLemmas
import Derived.RowKit
import Derived.Test.YtojecbigcamedaaSpellW
import Derived.Test.YtojecbigcamedaaWWords
import Derived.Test.YtojecbigcamedaaWLast
import Derived.Test.YtojecbigcamedaaWTab
import Derived.Test.YtojecbigcamedaaWFour
import Derived.Test.YtojecbigcamedaaWQPut
import Derived.Test.YtojecbigcamedaaWApart
import Derived.Test.YtojecbigcamedaaWArr
import Derived.Test.YtojecbigcamedaaWZeros
import Derived.Test.YtojecbigcamedaaWFoot
import Derived.Test.YtojecbigcamedaaWKept
import Derived.Test.YtojecbigcamedaaWShare
import Derived.Test.YtojecbigcamedaaWN
import Derived.Test.YtojecbigcamedaaWFootNe
import Derived.Test.YtojecbigcamedaaWAt
import Derived.Test.YtojecbigcamedaaWEqStruct
import Derived.Test.YtojecbigcamedaaWRepsOne
import Derived.Test.YtojecbigcamedaaWInv
import Derived.Test.YtojecbigcamedaaWInvWords
import Derived.Test.YtojecbigcamedaaWGuard
import Derived.Test.YtojecbigcamedaaWNEv
import Derived.Test.YtojecbigcamedaaWMore
namespace Go.Proofs.Ytojecbigcamedaa.PBase
open Go.RowKit Go.Proofs.YtojecbigcamedaaW.PrintWords Go.Proofs.YtojecbigcamedaaW.PrintLast Go.Proofs.YtojecbigcamedaaW.PrintMore
attribute [local go_sem] max2_int min2_int max_two min_two max_three min_three max_four min_four   -- for this text's walks alone
set_option linter.unusedVariables false
set_option linter.unusedSimpArgs false



def errW : Option Int → Value
  | none => .nilIface
  | some c => .iface 0 (.int .i64 c)
theorem errW_none : errW none = .nilIface := rfl
theorem errW_some (c : Int) : errW (some c) = .iface 0 (.int .i64 c) := rfl

theorem info5 : (Try.prog.info? 5).map (fun i => (i.zero, i.size, i.bytes)) = some (some (.int .u8 0), 1, 1) := by kernel_rfl
-- the values' own types

end Go.Proofs.Ytojecbigcamedaa.PBase
