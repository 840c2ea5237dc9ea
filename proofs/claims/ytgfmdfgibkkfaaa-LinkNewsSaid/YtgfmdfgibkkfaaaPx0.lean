-- Printed by this session's own program wip/mprint.py
import Derived.Test.YtgfmdfgibkkfaaaProg
import Derived.Below
import Derived.Deep.Draws
import Derived.Deep.AppendLies
import Derived.Maps.AppendAt
import Derived.OwnWalk
import Derived.Laws.BytesArg
import Derived.Laws.MakeOwn
import Derived.Laws.OwnMore
import Derived.Deep.OwnRows
import Derived.Tactics
import Derived.Lib.ConvBytes
import Derived.Laws.Slices
import Derived.WalkKit
import Derived.KernelRfl
import Derived.RowKit3
import Derived.Deep.LoopGhost
import Derived.Deep.QuietTactic
import Derived.BigQuiet
import Derived.WideLaws
import Derived.Deep.DeepCutAuto
import Derived.Deep.CutBlock
import Derived.Deep.RegionHeld3
import Derived.Laws.Rows
import Derived.Lib.AppendStr
import Derived.ArgAppend
import Derived.Laws.IdiomCopy
import Derived.OrdersHeld
import Derived.Laws.BitsLemmas
import Derived.RowKit
import Derived.Test.YtgfmdfgibkkfaaaConv
import Derived.LoopTactic
import Derived.Lib.LazyBuf
import Derived.Test.YtgfmdfgibkkfaaaMake0
import Derived.Test.YtgfmdfgibkkfaaaBigStr
import Derived.Test.YtgfmdfgibkkfaaaHSum
import Derived.Shelf.Abstract
import Derived.Test.YtgfmdfgibkkfaaaWWords
import Derived.Test.YtgfmdfgibkkfaaaWLast
import Derived.Test.YtgfmdfgibkkfaaaWTab
import Derived.Test.YtgfmdfgibkkfaaaWFour
import Derived.Test.YtgfmdfgibkkfaaaWQPut
import Derived.Test.YtgfmdfgibkkfaaaWApart
import Derived.Test.YtgfmdfgibkkfaaaWArr
import Derived.Test.YtgfmdfgibkkfaaaWZeros
import Derived.Test.YtgfmdfgibkkfaaaWFoot
import Derived.Test.YtgfmdfgibkkfaaaWKept
import Derived.Test.YtgfmdfgibkkfaaaWShare
import Derived.Test.YtgfmdfgibkkfaaaWN
import Derived.Test.YtgfmdfgibkkfaaaWFootNe
import Derived.Test.YtgfmdfgibkkfaaaWAt
import Derived.Test.YtgfmdfgibkkfaaaWEqStruct
import Derived.Test.YtgfmdfgibkkfaaaWRepsOne
import Derived.Test.YtgfmdfgibkkfaaaWInv
import Derived.Test.YtgfmdfgibkkfaaaWInvWords
import Derived.Test.YtgfmdfgibkkfaaaWGuard
import Derived.Test.YtgfmdfgibkkfaaaWNEv
import Derived.Test.YtgfmdfgibkkfaaaWMore
namespace Go.Proofs.Ytgfmdfgibkkfaaa.P
open Go.RowKit Go.Proofs.YtgfmdfgibkkfaaaW.PrintWords Go.Proofs.YtgfmdfgibkkfaaaW.PrintLast Go.Proofs.YtgfmdfgibkkfaaaW.PrintMore
attribute [local go_sem] max2_int min2_int max_two min_two max_three min_three max_four min_four   -- for this text's walks alone
set_option linter.unusedVariables false
set_option linter.unusedSimpArgs false



def errW : Option Int → Value
  | none => .nilIface
  | some c => .iface 0 (.int .i64 c)
theorem errW_none : errW none = .nilIface := rfl
theorem errW_some (c : Int) : errW (some c) = .iface 0 (.int .i64 c) := rfl

abbrev T_ : Bool := true
abbrev F_ : Bool := false
theorem b1_ {w : World} {g : Nat} {o : Obj} {n : Nat} (h : w.heap[g]? = some o) : (w.drewN n).heap[g]? = some o := blk_drewN h n
theorem b2_ {w : World} {g : Nat} {o : Obj} (h : w.heap[g]? = some o) : w.drew.heap[g]? = some o := blk_drew h
theorem b3_ {w : World} {g : Nat} {o o2 : Obj} (h : w.heap[g]? = some o) : (w.alloc o2).heap[g]? = some o := blk_alloc h o2
theorem w64m (x : Int) : wrap64 x % 256 = x % 256 := by unfold wrap64; omega
theorem info3 : (Try.prog.info? 3).map (fun i => (i.zero, i.size, i.bytes)) = some (some (.int .i64 0), 1, 8) := by kernel_rfl
theorem info5 : (Try.prog.info? 5).map (fun i => (i.zero, i.size, i.bytes)) = some (some (.int .u8 0), 1, 1) := by kernel_rfl
theorem info9 : (Try.prog.info? 9).map (fun i => (i.zero, i.size, i.bytes)) = some (some (.string ⟨#[]⟩), 1, 16) := by kernel_rfl
-- the values' own types
def rd_L1 (xs : List (List ByteArray)) (i : Int) : (List ByteArray) := xs.getD i.toNat ([] : List ByteArray)
theorem at_L1 {w : World} {A : Option Addr} {n : Nat} {xs : List (List ByteArray)} (h : Kd.C (Kd.slice 9 Kd.string) w A n xs) (i : Int) (h0 : 0 ≤ i) (h1 : i < n) : ∃ ad A0 c0, A = some ad ∧ w.cell? (ad.add i.toNat) = some (.slice A0 (rd_L1 xs i).length c0) ∧ (rd_L1 xs i).length ≤ c0 ∧ Kd.string.C w A0 (rd_L1 xs i).length (rd_L1 xs i) := by
  obtain ⟨ad, c, e, _, hK, hc0⟩ := Kd.C_get h ([] : List ByteArray) i h0 h1
  have hc : ∀ j u, c[j]? = some u → w.cell? (ad.add (i.toNat * 1 + j)) = some u := hc0
  obtain ⟨A0, c0, rfl, l0, g0⟩ := hK
  exact ⟨ad, A0, c0, e, by have hq := hc 0 _ rfl; rwa [Nat.mul_one, Nat.add_zero] at hq, l0, g0⟩

end Go.Proofs.Ytgfmdfgibkkfaaa.P
