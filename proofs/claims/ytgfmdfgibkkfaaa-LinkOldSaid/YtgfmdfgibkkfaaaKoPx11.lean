-- Printed by this session's own program wip/mprint.py
import Derived.Test.YtgfmdfgibkkfaaaKoPx0
import Derived.Test.YtgfmdfgibkkfaaaKoPx7
namespace Go.Proofs.Ytgfmdfgibkkfaaa.P
open Go.RowKit Go.Proofs.YtgfmdfgibkkfaaaW.PrintWords Go.Proofs.YtgfmdfgibkkfaaaW.PrintLast Go.Proofs.YtgfmdfgibkkfaaaW.PrintMore
attribute [local go_sem] max2_int min2_int max_two min_two max_three min_three max_four min_four   -- for this text's walks alone
set_option linter.unusedVariables false
set_option linter.unusedSimpArgs false

/-! ### counterfoillaw15_LinkOld: function 9 -/

/-! ### counterfoilref01_Put: function 45 -/
mutual
def counterfoilref01_Put.j0 : Nat → Int → Int → Bool → Option (ByteArray × Int)
  | 0, _, _, _ => none
  | k + 1, x0, x1, x13 => if x13 = true then (some ((⟨#[]⟩ : ByteArray), 1)) else (if x0 < 0 then (some ((⟨#[]⟩ : ByteArray), 10)) else (counterfoilref01_Put.l0 k x0 x1 (⟨#[]⟩ : ByteArray) 0))
def counterfoilref01_Put.l0 : Nat → Int → Int → ByteArray → Int → Option (ByteArray × Int)
  | 0, _, _, _, _ => none
  | k + 1, x0, x1, x6, x7 => if x7 < x1 then ((some (([(Int.tmod x0 256) % 256] : List Int) : List Int)).bind fun y200 => (if (strOfNums y200).size + x6.size ≤ 9223372036854775807 then (counterfoilref01_Put.l0 k (wrap64 (Int.tdiv x0 256)) x1 ((strOfNums y200) ++ x6) (wrap64 (x7 + 1))) else (none))) else (if x0 > 0 then (some ((⟨#[]⟩ : ByteArray), 10)) else (some (x6, 0)))
end
def counterfoilref01_Put.f (k : Nat) (a0 : Int) (a1 : Int) : Option (ByteArray × Int) := if a1 < 1 then (counterfoilref01_Put.j0 k a0 a1 true) else (counterfoilref01_Put.j0 k a0 a1 (decide (a1 > 8)))
/-! ### counterfoilref15_Packet: function 37 -/
def counterfoilref15_Packet.f (k : Nat) (a0_0 : Int) (a0_1 : Int) (a0_2 : Int) (a0_3 : Int) (l0_4 : List ByteArray) (a1 : Int) (a2 : Int) (a3 : ByteArray) : Option (ByteArray) := (counterfoilref01_Put.f k a0_0 8).bind fun bt204 => ((counterfoilref01_Put.f k a0_1 8).bind fun bt206 => ((counterfoilref01_Put.f k a2 8).bind fun bt208 => ((counterfoilref01_Put.f k a0_3 8).bind fun bt210 => (if bt204.1.size + bt206.1.size ≤ 9223372036854775807 then (if (bt204.1 ++ bt206.1).size + bt208.1.size ≤ 9223372036854775807 then (if ((bt204.1 ++ bt206.1) ++ bt208.1).size + bt210.1.size ≤ 9223372036854775807 then (if (((bt204.1 ++ bt206.1) ++ bt208.1) ++ bt210.1).size + a3.size ≤ 9223372036854775807 then ((counterfoilref03_Seal.f k a1 ((((bt204.1 ++ bt206.1) ++ bt208.1) ++ bt210.1) ++ a3)).bind fun bt212 => (some bt212.1)) else (none)) else (none)) else (none)) else (none)))))
end Go.Proofs.Ytgfmdfgibkkfaaa.P
