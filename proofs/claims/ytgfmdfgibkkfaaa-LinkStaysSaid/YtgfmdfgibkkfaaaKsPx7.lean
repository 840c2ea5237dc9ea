-- Printed by this session's own program wip/mprint.py
import Derived.Test.YtgfmdfgibkkfaaaKsPx0
namespace Go.Proofs.Ytgfmdfgibkkfaaa.P
open Go.RowKit Go.Proofs.YtgfmdfgibkkfaaaW.PrintWords Go.Proofs.YtgfmdfgibkkfaaaW.PrintLast Go.Proofs.YtgfmdfgibkkfaaaW.PrintMore
attribute [local go_sem] max2_int min2_int max_two min_two max_three min_three max_four min_four   -- for this text's walks alone
set_option linter.unusedVariables false
set_option linter.unusedSimpArgs false

/-! ### counterfoilref01_Same: function 19 -/
def counterfoilref01_Same.l0 : Nat → List ByteArray → List ByteArray → Int → Option (Bool)
  | 0, _, _, _ => none
  | k + 1, x0, x1, x5 => if x5 < (x0.length : Int) then (if 0 ≤ x5 then (if x5 < (x1.length : Int) then (if (rdOf ByteArray.empty x0 x5).toList = (rdOf ByteArray.empty x1 x5).toList then (counterfoilref01_Same.l0 k x0 x1 (wrap64 (x5 + 1))) else (some false)) else (none)) else (none)) else (some true)
def counterfoilref01_Same.f (k : Nat) (l0 : List ByteArray) (l1 : List ByteArray) : Option (Bool) := if (l0.length : Int) = (l1.length : Int) then (counterfoilref01_Same.l0 k l0 l1 0) else (some false)
/-! ### counterfoilref15_Equal: function 17 -/
def counterfoilref15_Equal.f (k : Nat) (a0_0 : Int) (a0_1 : Int) (a0_2 : Int) (a0_3 : Int) (l0_4 : List ByteArray) (a1_0 : Int) (a1_1 : Int) (a1_2 : Int) (a1_3 : Int) (l1_4 : List ByteArray) : Option (Bool) := if a0_0 = a1_0 then (if a0_1 = a1_1 then (if a0_2 = a1_2 then (if a0_3 = a1_3 then ((counterfoilref01_Same.f k l0_4 l1_4).bind fun t189 => (some t189)) else (some false)) else (some false)) else (some false)) else (some false)
/-! ### counterfoilref02_Four: function 50 -/
def counterfoilref02_Four.f (a0 : Int) : Option (ByteArray) := some (strOfNums (([(wrap64 (Int.tdiv (wrap64 (a0)) 16777216)) % 256, (Int.tmod (wrap64 (Int.tdiv (wrap64 (a0)) 65536)) 256) % 256, (Int.tmod (wrap64 (Int.tdiv (wrap64 (a0)) 256)) 256) % 256, (Int.tmod (wrap64 (a0)) 256) % 256] : List Int)))
/-! ### counterfoilref02_On: function 51 -/
mutual
def counterfoilref02_On.l0 : Nat → ByteArray → Int → Int → Option (Int)
  | 0, _, _, _ => none
  | k + 1, x1, x5, x6 => if x6 < (x1.size : Int) then (counterfoilref02_On.l1 k x1 x5 x6 0) else (some ((wrap64 (4294967295 - x5)) % 4294967296))
def counterfoilref02_On.l1 : Nat → ByteArray → Int → Int → Int → Option (Int)
  | 0, _, _, _, _ => none
  | k + 1, x1, x5, x6, x7 => if x7 < 8 then (if 0 ≤ x6 then (if x6 < (x1.size : Int) then (if 0 ≤ x7 then (if (Int.tmod x5 2) = (Go.bits .and .i64 (shr .i64 (wrap64 (bt x1 x6)) x7) 1) then (counterfoilref02_On.l1 k x1 (wrap64 (Int.tdiv x5 2)) x6 (wrap64 (x7 + 1))) else (counterfoilref02_On.l1 k x1 (Go.bits .xor .i64 (wrap64 (Int.tdiv x5 2)) 3988292384) x6 (wrap64 (x7 + 1)))) else (none)) else (none)) else (none)) else (counterfoilref02_On.l0 k x1 x5 (wrap64 (x6 + 1)))
end
def counterfoilref02_On.f (k : Nat) (a0 : Int) (a1 : ByteArray) : Option (Int) := counterfoilref02_On.l0 k a1 (wrap64 (4294967295 - (wrap64 (a0)))) 0
/-! ### counterfoilref03_Seal: function 46 -/
def counterfoilref03_Seal.j0 : Nat → Int → ByteArray → Bool → Option (ByteArray × Int)
  | 0, _, _, _ => none
  | k + 1, x0, x1, x12 => if x12 = true then (some ((⟨#[]⟩ : ByteArray), 1)) else (if (x1.size : Int) > 4096 then (some ((⟨#[]⟩ : ByteArray), 5)) else ((some (([(x0) % 256, (wrap64 ((x1.size : Int) / 256)) % 256, (x1.size : Int) % 256] : List Int) : List Int)).bind fun y193 => (if (strOfNums y193).size + x1.size ≤ 9223372036854775807 then ((counterfoilref02_On.f k 0 ((strOfNums y193) ++ x1)).bind fun t196 => ((counterfoilref02_Four.f t196).bind fun t197 => (if ((strOfNums y193) ++ x1).size + t197.size ≤ 9223372036854775807 then (some (((strOfNums y193) ++ x1) ++ t197, 0)) else (none)))) else (none))))
def counterfoilref03_Seal.f (k : Nat) (a0 : Int) (a1 : ByteArray) : Option (ByteArray × Int) := if a0 < 0 then (counterfoilref03_Seal.j0 k a0 a1 true) else (counterfoilref03_Seal.j0 k a0 a1 (decide (a0 > 255)))
end Go.Proofs.Ytgfmdfgibkkfaaa.P
