-- Printed by this session's own program wip/mprint.py
import Derived.Test.YtgfmdfgibkkfaaaKsPx0
import Derived.Test.YtgfmdfgibkkfaaaKsPx7
namespace Go.Proofs.Ytgfmdfgibkkfaaa.P
open Go.RowKit Go.Proofs.YtgfmdfgibkkfaaaW.PrintWords Go.Proofs.YtgfmdfgibkkfaaaW.PrintLast Go.Proofs.YtgfmdfgibkkfaaaW.PrintMore
attribute [local go_sem] max2_int min2_int max_two min_two max_three min_three max_four min_four   -- for this text's walks alone
set_option linter.unusedVariables false
set_option linter.unusedSimpArgs false

/-! ### counterfoilref03_Open: function 40 -/
def counterfoilref03_Open.f (k : Nat) (a0 : ByteArray) : Option (Int × ByteArray × Int) := if (a0.size : Int) < 7 then (some (0, (⟨#[]⟩ : ByteArray), 2)) else (if 1 < (a0.size : Int) then (if 2 < (a0.size : Int) then (if (wrap64 ((wrap64 (256 * (wrap64 (bt a0 1)))) + (wrap64 (bt a0 2)))) > 4096 then (some (0, (⟨#[]⟩ : ByteArray), 3)) else (if (wrap64 ((a0.size : Int) - 7)) < (wrap64 ((wrap64 (256 * (wrap64 (bt a0 1)))) + (wrap64 (bt a0 2)))) then (some (0, (⟨#[]⟩ : ByteArray), 2)) else (if (wrap64 ((a0.size : Int) - 7)) > (wrap64 ((wrap64 (256 * (wrap64 (bt a0 1)))) + (wrap64 (bt a0 2)))) then (some (0, (⟨#[]⟩ : ByteArray), 3)) else (if 0 < (a0.size : Int) then (if 3 ≤ (wrap64 (3 + (wrap64 ((wrap64 (256 * (wrap64 (bt a0 1)))) + (wrap64 (bt a0 2)))))) then (if (wrap64 (3 + (wrap64 ((wrap64 (256 * (wrap64 (bt a0 1)))) + (wrap64 (bt a0 2)))))) ≤ (a0.size : Int) then ((counterfoilref03_Seal.f k (wrap64 (bt a0 0)) (a0.extract 3 ((wrap64 (3 + (wrap64 ((wrap64 (256 * (wrap64 (bt a0 1)))) + (wrap64 (bt a0 2)))))) : Int).toNat)).bind fun bt198 => (if bt198.1.toList = a0.toList then (some (wrap64 (bt a0 0), a0.extract 3 ((wrap64 (3 + (wrap64 ((wrap64 (256 * (wrap64 (bt a0 1)))) + (wrap64 (bt a0 2)))))) : Int).toNat, 0)) else (some (0, (⟨#[]⟩ : ByteArray), 4)))) else (none)) else (none)) else (none))))) else (none)) else (none))
end Go.Proofs.Ytgfmdfgibkkfaaa.P
