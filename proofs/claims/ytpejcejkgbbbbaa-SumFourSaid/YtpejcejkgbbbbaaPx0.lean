-- Printed by this session's own program wip/mprint.py
import Derived.Test.YtpejcejkgbbbbaaProg
import Derived.Below
import Derived.Deep.Draws
import Derived.Deep.AppendLies
import Derived.Maps.AppendAt
import Derived.OwnWalk
import Derived.Laws.BytesArg
import Derived.Laws.MakeOwn
import Derived.Laws.OwnMore
import Derived.Deep.OwnRows
import Derived.Tactics
import Derived.Lib.ConvBytes
import Derived.Laws.Slices
import Derived.WalkKit
import Derived.KernelRfl
import Derived.RowKit3
import Derived.Deep.LoopGhost
import Derived.Deep.QuietTactic
import Derived.BigQuiet
import Derived.WideLaws
import Derived.Deep.DeepCutAuto
import Derived.Deep.CutBlock
import Derived.Deep.RegionHeld3
import Derived.Laws.Rows
import Derived.Lib.AppendStr
import Derived.ArgAppend
import Derived.Laws.IdiomCopy
import Derived.OrdersHeld
import Derived.Laws.BitsLemmas
import Derived.RowKit
import Derived.Test.YtpejcejkgbbbbaaHSum
import Derived.Test.YtpejcejkgbbbbaaWWords
import Derived.Test.YtpejcejkgbbbbaaWLast
import Derived.Test.YtpejcejkgbbbbaaWTab
import Derived.Test.YtpejcejkgbbbbaaWFour
import Derived.Test.YtpejcejkgbbbbaaWQPut
import Derived.Test.YtpejcejkgbbbbaaWApart
import Derived.Test.YtpejcejkgbbbbaaWArr
import Derived.Test.YtpejcejkgbbbbaaWZeros
import Derived.Test.YtpejcejkgbbbbaaWFoot
import Derived.Test.YtpejcejkgbbbbaaWKept
import Derived.Test.YtpejcejkgbbbbaaWShare
import Derived.Test.YtpejcejkgbbbbaaWN
import Derived.Test.YtpejcejkgbbbbaaWFootNe
import Derived.Test.YtpejcejkgbbbbaaWAt
import Derived.Test.YtpejcejkgbbbbaaWEqStruct
import Derived.Test.YtpejcejkgbbbbaaWRepsOne
import Derived.Test.YtpejcejkgbbbbaaWInv
import Derived.Test.YtpejcejkgbbbbaaWInvWords
import Derived.Test.YtpejcejkgbbbbaaWGuard
import Derived.Test.YtpejcejkgbbbbaaWNEv
import Derived.Test.YtpejcejkgbbbbaaWMore
namespace Go.Proofs.Ytpejcejkgbbbbaa.P
open Go.RowKit Go.Proofs.YtpejcejkgbbbbaaW.PrintWords Go.Proofs.YtpejcejkgbbbbaaW.PrintLast Go.Proofs.YtpejcejkgbbbbaaW.PrintMore
attribute [local go_sem] max2_int min2_int max_two min_two max_three min_three max_four min_four   -- for this text's walks alone
set_option linter.unusedVariables false
set_option linter.unusedSimpArgs false



def errW : Option Int → Value
  | none => .nilIface
  | some c => .iface 0 (.int .i64 c)
theorem errW_none : errW none = .nilIface := rfl
theorem errW_some (c : Int) : errW (some c) = .iface 0 (.int .i64 c) := rfl

theorem w64m (x : Int) : wrap64 x % 256 = x % 256 := by unfold wrap64; omega
theorem info5 : (Try.prog.info? 5).map (fun i => (i.zero, i.size, i.bytes)) = some (some (.int .u8 0), 1, 1) := by kernel_rfl
-- the values' own types

end Go.Proofs.Ytpejcejkgbbbbaa.P
