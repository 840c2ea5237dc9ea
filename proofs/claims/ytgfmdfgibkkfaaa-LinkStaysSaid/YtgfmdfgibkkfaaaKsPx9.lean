-- Printed by this session's own program wip/mprint.py
import Derived.Test.YtgfmdfgibkkfaaaKsPx0
namespace Go.Proofs.Ytgfmdfgibkkfaaa.P
open Go.RowKit Go.Proofs.YtgfmdfgibkkfaaaW.PrintWords Go.Proofs.YtgfmdfgibkkfaaaW.PrintLast Go.Proofs.YtgfmdfgibkkfaaaW.PrintMore
attribute [local go_sem] max2_int min2_int max_two min_two max_three min_three max_four min_four   -- for this text's walks alone
set_option linter.unusedVariables false
set_option linter.unusedSimpArgs false

/-! ### counterfoilref01_Get: function 41 -/
mutual
def counterfoilref01_Get.j0 : Nat → ByteArray → Bool → Option (Int × Int)
  | 0, _, _ => none
  | k + 1, x0, x13 => if x13 = true then (some (0, 1)) else (if (x0.size : Int) = 8 then (if 0 < (x0.size : Int) then (counterfoilref01_Get.j1 k x0 (decide ((bt x0 0) ≥ 128))) else (none)) else (counterfoilref01_Get.j1 k x0 false))
def counterfoilref01_Get.j1 : Nat → ByteArray → Bool → Option (Int × Int)
  | 0, _, _ => none
  | k + 1, x0, x21 => if x21 = true then (some (0, 10)) else (counterfoilref01_Get.l0 k x0 0 0)
def counterfoilref01_Get.l0 : Nat → ByteArray → Int → Int → Option (Int × Int)
  | 0, _, _, _ => none
  | k + 1, x0, x4, x5 => if x5 < (x0.size : Int) then (if 0 ≤ x5 then (counterfoilref01_Get.l0 k x0 (wrap64 ((wrap64 (256 * x4)) + (wrap64 (bt x0 x5)))) (wrap64 (x5 + 1))) else (none)) else (some (x4, 0))
end
def counterfoilref01_Get.f (k : Nat) (a0 : ByteArray) : Option (Int × Int) := if (a0.size : Int) = 0 then (counterfoilref01_Get.j0 k a0 true) else (counterfoilref01_Get.j0 k a0 (decide ((a0.size : Int) > 8)))
end Go.Proofs.Ytgfmdfgibkkfaaa.P
