import Derived.Test.YtgfmdfgibkkfaaaKaSumB
set_option linter.unusedVariables false
set_option linter.unusedSimpArgs false
namespace Go.Proofs.Ytgfmdfgibkkfaaa.Sum
open Go.RowKit Go.Proofs.Ytgfmdfgibkkfaaa.P Go.Proofs.Ytgfmdfgibkkfaaa.Core Go.Proofs.Ytgfmdfgibkkfaaa.Crc Go.Proofs.Ytgfmdfgibkkfaaa.Conv Go.Proofs.YtgfmdfgibkkfaaaW.PrintWords Go.Proofs.YtgfmdfgibkkfaaaW.PrintLast Go.Proofs.YtgfmdfgibkkfaaaW.PrintMore
theorem turned_wrong (s : ByteArray) (i : Nat) (b : UInt8) (hb : b ≠ 0) (hi : i < (s.data.toList ++ digs (crc 0 s) 4).length) :
    rightS (mk ((s.data.toList ++ digs (crc 0 s) 4).set i ((s.data.toList ++ digs (crc 0 s) 4)[i] ^^^ b))) = false := by
  have hd : (digs (crc 0 s) 4).length = 4 := digs_length _ _
  by_cases h : i < s.data.toList.length
  · rw [List.set_append_left _ _ h, List.getElem_append_left h, rightS_mk _ _ hd, num_digs4 _ (crc_lt _ _), beq_eq_false_iff_ne]
    intro he
    have := (crc_one s.data.toList i h b).1 (by rw [data_mk]; exact he.symm)
    exact hb this
  · have hlt : i - s.data.toList.length < (digs (crc 0 s) 4).length := by
      rw [List.length_append] at hi
      omega
    rw [List.set_append_right _ _ (by omega), List.getElem_append_right (by omega), rightS_mk _ _ (by rw [List.length_set]; exact hd), data_mk, beq_eq_false_iff_ne]
    intro he
    have h2 := num_inj (m := digs (crc 0 s) 4) (by rw [List.length_set]) (he.trans (num_digs4 _ (crc_lt _ _)).symm)
    have h3 := congrArg (fun l => l[i - s.data.toList.length]?) h2
    simp only [List.getElem?_set_self hlt, List.getElem?_eq_getElem hlt, Option.some.injEq] at h3
    apply hb
    have h4 := congrArg (fun z => (digs (crc 0 s) 4)[i - s.data.toList.length]'hlt ^^^ z) h3
    simpa [← UInt8.xor_assoc] using h4
end Go.Proofs.Ytgfmdfgibkkfaaa.Sum
