-- Printed by this session's own program wip/mprint.py
import Derived.Test.YtgfmdfgibkkfaaaKsPx0
import Derived.Test.YtgfmdfgibkkfaaaKsPx8
import Derived.Test.YtgfmdfgibkkfaaaKsPx9
namespace Go.Proofs.Ytgfmdfgibkkfaaa.P
open Go.RowKit Go.Proofs.YtgfmdfgibkkfaaaW.PrintWords Go.Proofs.YtgfmdfgibkkfaaaW.PrintLast Go.Proofs.YtgfmdfgibkkfaaaW.PrintMore
attribute [local go_sem] max2_int min2_int max_two min_two max_three min_three max_four min_four   -- for this text's walks alone
set_option linter.unusedVariables false
set_option linter.unusedSimpArgs false

/-! ### counterfoilref15_Heard: function 30 -/
def counterfoilref15_Heard.ok (kind x0 x2 : Int) (b : ByteArray) : Bool := !(decide (x0 < 1 ∨ 1099511627776 < x0)) && !(decide (kind = 2) && (decide (x2 ≠ 0) || decide (32 < b.size)))
def counterfoilref15_Heard.no : Int × Int × Int × Int × Int × ByteArray := (0, 0, 0, 0, 0, (⟨#[]⟩ : ByteArray))
def counterfoilref15_Heard.get (k : Nat) (b : ByteArray) (i : Nat) : Option (Int × Int) := counterfoilref01_Get.f k (b.extract (8 * i) (8 * i + 8))
def counterfoilref15_Heard.f (k : Nat) (a0 : ByteArray) : Option (Int × Int × Int × Int × Int × ByteArray) := (counterfoilref03_Open.f k a0).bind fun o => if o.2.2 = 0 ∧ (o.1 = 1 ∨ o.1 = 2) ∧ 32 ≤ o.2.1.size ∧ o.2.1.size ≤ 544 then
  (counterfoilref15_Heard.get k o.2.1 0).bind fun n0 => if n0.2 = 0 then
   (counterfoilref15_Heard.get k o.2.1 1).bind fun n1 => if n1.2 = 0 then
    (counterfoilref15_Heard.get k o.2.1 2).bind fun n2 => if n2.2 = 0 then
     (counterfoilref15_Heard.get k o.2.1 3).bind fun n3 => if n3.2 = 0 then
      (if counterfoilref15_Heard.ok o.1 n0.1 n2.1 o.2.1 = true then some (o.1, n0.1, n1.1, n2.1, n3.1, o.2.1.extract 32 o.2.1.size) else some counterfoilref15_Heard.no)
     else some counterfoilref15_Heard.no
    else some counterfoilref15_Heard.no
   else some counterfoilref15_Heard.no
  else some counterfoilref15_Heard.no
 else some counterfoilref15_Heard.no
end Go.Proofs.Ytgfmdfgibkkfaaa.P
