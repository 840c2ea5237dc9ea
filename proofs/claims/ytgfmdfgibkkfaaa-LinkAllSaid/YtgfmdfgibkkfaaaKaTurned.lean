import Derived.Test.YtgfmdfgibkkfaaaKaFrame
import Derived.Test.YtgfmdfgibkkfaaaKaSumC
set_option linter.unusedVariables false
set_option linter.unusedSimpArgs false
namespace Go.Proofs.Ytgfmdfgibkkfaaa.Frame
open Go.RowKit Go.Proofs.Ytgfmdfgibkkfaaa.P Go.Proofs.Ytgfmdfgibkkfaaa.Core Go.Proofs.Ytgfmdfgibkkfaaa.Crc Go.Proofs.Ytgfmdfgibkkfaaa.Conv Go.Proofs.Ytgfmdfgibkkfaaa.Sum Go.Proofs.Ytgfmdfgibkkfaaa.Oct Go.Proofs.YtgfmdfgibkkfaaaW.PrintWords Go.Proofs.YtgfmdfgibkkfaaaW.PrintLast Go.Proofs.YtgfmdfgibkkfaaaW.PrintMore
theorem open_wrong (s : ByteArray) (h : rightS s = false) : ∃ e, openS s = (0, mk [], e) ∧ e ≠ 0 := by
  unfold openS
  by_cases h1 : s.size < 7
  · rw [if_pos h1]; exact ⟨2, rfl, by omega⟩
  rw [if_neg h1]
  by_cases h2 : 4096 < lenF s
  · rw [if_pos h2]; exact ⟨3, rfl, by omega⟩
  rw [if_neg h2]
  by_cases h3 : s.size < 7 + lenF s
  · rw [if_pos h3]; exact ⟨2, rfl, by omega⟩
  rw [if_neg h3]
  by_cases h4 : 7 + lenF s < s.size
  · rw [if_pos h4]; exact ⟨3, rfl, by omega⟩
  rw [if_neg h4, h, if_neg (by simp)]
  exact ⟨4, rfl, by omega⟩
theorem seal_turned (k : UInt8) (b : List UInt8) (i : Nat) (y : UInt8) (hy : y ≠ 0) (hi : i < (sealL k b).length) : rightS (mk ((sealL k b).set i ((sealL k b)[i] ^^^ y))) = false :=
  turned_wrong (mk (headL k b)) i y hy hi
end Go.Proofs.Ytgfmdfgibkkfaaa.Frame
