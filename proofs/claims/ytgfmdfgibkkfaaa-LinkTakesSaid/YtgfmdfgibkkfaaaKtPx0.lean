import Derived.Test.YtgfmdfgibkkfaaaProg
import Derived.Below
import Derived.Deep.Draws
import Derived.Deep.AppendLies
import Derived.Maps.AppendAt
import Derived.OwnWalk
import Derived.Laws.BytesArg
import Derived.Laws.MakeOwn
import Derived.Laws.OwnMore
import Derived.Deep.OwnRows
import Derived.Tactics
import Derived.Lib.ConvBytes
import Derived.Laws.Slices
import Derived.WalkKit
import Derived.KernelRfl
import Derived.RowKit3
import Derived.Deep.LoopGhost
import Derived.Deep.QuietTactic
import Derived.BigQuiet
import Derived.WideLaws
import Derived.Deep.DeepCutAuto
import Derived.Deep.CutBlock
import Derived.Deep.RegionHeld3
import Derived.Laws.Rows
import Derived.Lib.AppendStr
import Derived.ArgAppend
import Derived.Laws.IdiomCopy
import Derived.OrdersHeld
import Derived.Laws.BitsLemmas
import Derived.RowKit
import Derived.Test.YtgfmdfgibkkfaaaKtConv
import Derived.LoopTactic
import Derived.Lib.LazyBuf
import Derived.Test.YtgfmdfgibkkfaaaKtMake0
import Derived.Test.YtgfmdfgibkkfaaaKtBigStr
import Derived.Test.YtgfmdfgibkkfaaaKtHSum
import Derived.Shelf.Abstract
import Derived.Test.YtgfmdfgibkkfaaaKtWWords
import Derived.Test.YtgfmdfgibkkfaaaKtWLast
import Derived.Test.YtgfmdfgibkkfaaaKtWTab
import Derived.Test.YtgfmdfgibkkfaaaKtWFour
import Derived.Test.YtgfmdfgibkkfaaaKtWQPut
import Derived.Test.YtgfmdfgibkkfaaaKtWApart
import Derived.Test.YtgfmdfgibkkfaaaKtWArr
import Derived.Test.YtgfmdfgibkkfaaaKtWZeros
import Derived.Test.YtgfmdfgibkkfaaaKtWFoot
import Derived.Test.YtgfmdfgibkkfaaaKtWKept
import Derived.Test.YtgfmdfgibkkfaaaKtWShare
import Derived.Test.YtgfmdfgibkkfaaaKtWN
import Derived.Test.YtgfmdfgibkkfaaaKtWFootNe
import Derived.Test.YtgfmdfgibkkfaaaKtWAt
import Derived.Test.YtgfmdfgibkkfaaaKtWEqStruct
import Derived.Test.YtgfmdfgibkkfaaaKtWRepsOne
import Derived.Test.YtgfmdfgibkkfaaaKtWInv
import Derived.Test.YtgfmdfgibkkfaaaKtWInvWords
import Derived.Test.YtgfmdfgibkkfaaaKtWGuard
import Derived.Test.YtgfmdfgibkkfaaaKtWNEv
import Derived.Test.YtgfmdfgibkkfaaaKtWMore
namespace Go.Proofs.Ytgfmdfgibkkfaaa.P
open Go.RowKit Go.Proofs.YtgfmdfgibkkfaaaW.PrintWords Go.Proofs.YtgfmdfgibkkfaaaW.PrintLast Go.Proofs.YtgfmdfgibkkfaaaW.PrintMore
attribute [local go_sem] max2_int min2_int max_two min_two max_three min_three max_four min_four
set_option linter.unusedVariables false
set_option linter.unusedSimpArgs false
def errW : Option Int → Value
  | none => .nilIface
  | some c => .iface 0 (.int .i64 c)
theorem errW_none : errW none = .nilIface := rfl
theorem errW_some (c : Int) : errW (some c) = .iface 0 (.int .i64 c) := rfl
abbrev T_ : Bool := true
abbrev F_ : Bool := false
theorem w64m (x : Int) : wrap64 x % 256 = x % 256 := by unfold wrap64; omega
theorem info5 : (Try.prog.info? 5).map (fun i => (i.zero, i.size, i.bytes)) = some (some (.int .u8 0), 1, 1) := by kernel_rfl
theorem info9 : (Try.prog.info? 9).map (fun i => (i.zero, i.size, i.bytes)) = some (some (.string ⟨#[]⟩), 1, 16) := by kernel_rfl
structure S24 where
  f0 : Int
  f1 : Int
  f2 : Int
  f3 : (List ByteArray)
  f4 : Int
def k24 : Kd S24 := Kd.iso (Kd.pair (Kd.int .i64) (Kd.pair (Kd.int .i64) (Kd.pair (Kd.int .i64) (Kd.pair (Kd.slice 9 Kd.string) (Kd.int .i64))))) (fun x : S24 => (x.f0, x.f1, x.f2, x.f3, x.f4))
theorem k24_open {w : World} {x : S24} {cs : List Value} (h : k24.K w x cs) : ∃ A3 c3, cs = [.int .i64 x.f0, .int .i64 x.f1, .int .i64 x.f2, .slice A3 x.f3.length c3, .int .i64 x.f4] ∧ x.f3.length ≤ c3 ∧ Kd.string.C w A3 x.f3.length x.f3 := by
  obtain ⟨_, _, rfl, rfl, ⟨_, _, rfl, rfl, ⟨_, _, rfl, rfl, ⟨_, _, rfl, ⟨A3, c3, rfl, l3, g3⟩, rfl⟩⟩⟩⟩ := h
  exact ⟨A3, c3, rfl, l3, g3⟩
end Go.Proofs.Ytgfmdfgibkkfaaa.P
