-- Printed by this session's own program wip/mprint.py
import Derived.Test.YtkkkocemdjekcaaProg
import Derived.Below
import Derived.Deep.Draws
import Derived.Deep.AppendLies
import Derived.Maps.AppendAt
import Derived.OwnWalk
import Derived.Laws.BytesArg
import Derived.Laws.MakeOwn
import Derived.Laws.OwnMore
import Derived.Deep.OwnRows
import Derived.Tactics
import Derived.Lib.ConvBytes
import Derived.Laws.Slices
import Derived.WalkKit
import Derived.KernelRfl
import Derived.RowKit3
import Derived.Deep.LoopGhost
import Derived.Deep.QuietTactic
import Derived.BigQuiet
import Derived.WideLaws
import Derived.Deep.DeepCutAuto
import Derived.Deep.CutBlock
import Derived.Deep.RegionHeld3
import Derived.Laws.Rows
import Derived.Lib.AppendStr
import Derived.ArgAppend
import Derived.Laws.IdiomCopy
import Derived.OrdersHeld
import Derived.Laws.BitsLemmas
import Derived.RowKit
import Derived.Test.YtkkkocemdjekcaaHSum
import Derived.Test.YtkkkocemdjekcaaWWords
import Derived.Test.YtkkkocemdjekcaaWLast
import Derived.Test.YtkkkocemdjekcaaWTab
import Derived.Test.YtkkkocemdjekcaaWFour
import Derived.Test.YtkkkocemdjekcaaWQPut
import Derived.Test.YtkkkocemdjekcaaWApart
import Derived.Test.YtkkkocemdjekcaaWArr
import Derived.Test.YtkkkocemdjekcaaWZeros
import Derived.Test.YtkkkocemdjekcaaWFoot
import Derived.Test.YtkkkocemdjekcaaWKept
import Derived.Test.YtkkkocemdjekcaaWShare
import Derived.Test.YtkkkocemdjekcaaWN
import Derived.Test.YtkkkocemdjekcaaWFootNe
import Derived.Test.YtkkkocemdjekcaaWAt
import Derived.Test.YtkkkocemdjekcaaWEqStruct
import Derived.Test.YtkkkocemdjekcaaWRepsOne
import Derived.Test.YtkkkocemdjekcaaWInv
import Derived.Test.YtkkkocemdjekcaaWInvWords
import Derived.Test.YtkkkocemdjekcaaWGuard
import Derived.Test.YtkkkocemdjekcaaWNEv
import Derived.Test.YtkkkocemdjekcaaWMore
namespace Go.Proofs.Ytkkkocemdjekcaa.P
open Go.RowKit Go.Proofs.YtkkkocemdjekcaaW.PrintWords Go.Proofs.YtkkkocemdjekcaaW.PrintLast Go.Proofs.YtkkkocemdjekcaaW.PrintMore
attribute [local go_sem] max2_int min2_int max_two min_two max_three min_three max_four min_four   -- for this text's walks alone
set_option linter.unusedVariables false
set_option linter.unusedSimpArgs false



def errW : Option Int → Value
  | none => .nilIface
  | some c => .iface 0 (.int .i64 c)
theorem errW_none : errW none = .nilIface := rfl
theorem errW_some (c : Int) : errW (some c) = .iface 0 (.int .i64 c) := rfl

theorem w64m (x : Int) : wrap64 x % 256 = x % 256 := by unfold wrap64; omega
theorem info5 : (Try.prog.info? 5).map (fun i => (i.zero, i.size, i.bytes)) = some (some (.int .u8 0), 1, 1) := by kernel_rfl
-- the values' own types

end Go.Proofs.Ytkkkocemdjekcaa.P
