import Derived.Test.YtgfmdfgibkkfaaaKxSumB
import Derived.Test.YtgfmdfgibkkfaaaKxFrame
set_option linter.unusedVariables false
set_option linter.unusedSimpArgs false
namespace Go.Proofs.Ytgfmdfgibkkfaaa.Sum
open Go.RowKit Go.Proofs.Ytgfmdfgibkkfaaa.P Go.Proofs.Ytgfmdfgibkkfaaa.Core Go.Proofs.Ytgfmdfgibkkfaaa.Crc Go.Proofs.Ytgfmdfgibkkfaaa.Conv Go.Proofs.YtgfmdfgibkkfaaaW.PrintWords Go.Proofs.YtgfmdfgibkkfaaaW.PrintLast Go.Proofs.YtgfmdfgibkkfaaaW.PrintMore
theorem turned_wrong (s : ByteArray) (i : Nat) (b : UInt8) (hb : b ≠ 0) (hi : i < (s.data.toList ++ digs (crc 0 s) 4).length) :
    rightS (mk ((s.data.toList ++ digs (crc 0 s) 4).set i ((s.data.toList ++ digs (crc 0 s) 4)[i] ^^^ b))) = false := by
  have hd : (digs (crc 0 s) 4).length = 4 := digs_length _ _
  by_cases h : i < s.data.toList.length
  · rw [List.set_append_left _ _ h, List.getElem_append_left h, rightS_mk _ _ hd, num_digs4 _ (crc_lt _ _), beq_eq_false_iff_ne]
    intro he
    have := (crc_one s.data.toList i h b).1 (by rw [data_mk]; exact he.symm)
    exact hb this
  · have hlt : i - s.data.toList.length < (digs (crc 0 s) 4).length := by
      rw [List.length_append] at hi
      omega
    rw [List.set_append_right _ _ (by omega), List.getElem_append_right (by omega), rightS_mk _ _ (by rw [List.length_set]; exact hd), data_mk, beq_eq_false_iff_ne]
    intro he
    have h2 := num_inj (m := digs (crc 0 s) 4) (by rw [List.length_set]) (he.trans (num_digs4 _ (crc_lt _ _)).symm)
    have h3 := congrArg (fun l => l[i - s.data.toList.length]?) h2
    simp only [List.getElem?_set_self hlt, List.getElem?_eq_getElem hlt, Option.some.injEq] at h3
    apply hb
    have h4 := congrArg (fun z => (digs (crc 0 s) 4)[i - s.data.toList.length]'hlt ^^^ z) h3
    simpa [← UInt8.xor_assoc] using h4
end Go.Proofs.Ytgfmdfgibkkfaaa.Sum
set_option linter.unusedVariables false
set_option linter.unusedSimpArgs false
namespace Go.Proofs.Ytgfmdfgibkkfaaa.Frame
open Go.RowKit Go.Proofs.Ytgfmdfgibkkfaaa.P Go.Proofs.Ytgfmdfgibkkfaaa.Core Go.Proofs.Ytgfmdfgibkkfaaa.Crc Go.Proofs.Ytgfmdfgibkkfaaa.Conv Go.Proofs.Ytgfmdfgibkkfaaa.Sum Go.Proofs.Ytgfmdfgibkkfaaa.Oct Go.Proofs.YtgfmdfgibkkfaaaW.PrintWords Go.Proofs.YtgfmdfgibkkfaaaW.PrintLast Go.Proofs.YtgfmdfgibkkfaaaW.PrintMore
theorem open_wrong (s : ByteArray) (h : rightS s = false) : ∃ e, openS s = (0, mk [], e) ∧ e ≠ 0 := by
  unfold openS
  by_cases h1 : s.size < 7
  · rw [if_pos h1]; exact ⟨2, rfl, by omega⟩
  rw [if_neg h1]
  by_cases h2 : 4096 < lenF s
  · rw [if_pos h2]; exact ⟨3, rfl, by omega⟩
  rw [if_neg h2]
  by_cases h3 : s.size < 7 + lenF s
  · rw [if_pos h3]; exact ⟨2, rfl, by omega⟩
  rw [if_neg h3]
  by_cases h4 : 7 + lenF s < s.size
  · rw [if_pos h4]; exact ⟨3, rfl, by omega⟩
  rw [if_neg h4, h, if_neg (by simp)]
  exact ⟨4, rfl, by omega⟩
theorem seal_turned (k : UInt8) (b : List UInt8) (i : Nat) (y : UInt8) (hy : y ≠ 0) (hi : i < (sealL k b).length) : rightS (mk ((sealL k b).set i ((sealL k b)[i] ^^^ y))) = false :=
  turned_wrong (mk (headL k b)) i y hy hi
end Go.Proofs.Ytgfmdfgibkkfaaa.Frame
