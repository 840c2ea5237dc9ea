/- For all texts, places and bytes, SumEnds answers true: a text with its sum behind is right, and no longer so when one byte of it is turned. -/
import Derived.Test.YtpejcejkgbbbbaaPx0
import Derived.Test.YtpejcejkgbbbbaaSumB
import Derived.Test.YtpejcejkgbbbbaaHSumEnds
namespace Go.Proofs.Ytpejcejkgbbbbaa.Pure
open Go.RowKit Go.Proofs.Ytpejcejkgbbbbaa.P Go.Proofs.Ytpejcejkgbbbbaa.Core Go.Proofs.Ytpejcejkgbbbbaa.Crc Go.Proofs.Ytpejcejkgbbbbaa.Conv Go.Proofs.Ytpejcejkgbbbbaa.Sum Go.Proofs.YtpejcejkgbbbbaaW.PrintWords Go.Proofs.YtpejcejkgbbbbaaW.PrintLast Go.Proofs.YtpejcejkgbbbbaaW.PrintMore
set_option linter.unusedVariables false
set_option linter.unusedSimpArgs false

theorem ends_mk (s : ByteArray) : ends s (crc 0 s : Int) = ints (s.data.toList ++ digs (crc 0 s) 4) := by
  unfold ends
  rw [bytesOf_ints, ints_digs4 _ (crc_lt _ _), ints_append]
theorem rd_ints (l : List UInt8) (i : Nat) (h : i < l.length) : rd (ints l) (i : Int) = (l[i].toNat : Int) := by
  unfold rd ints
  rw [Int.toNat_natCast, List.getD_eq_getElem?_getD, List.getElem?_map, List.getElem?_eq_getElem h]
  rfl
theorem turned_wrong (s : ByteArray) (i : Nat) (b : UInt8) (hb : b ≠ 0) (hi : i < (s.data.toList ++ digs (crc 0 s) 4).length) :
    rightS (mk ((s.data.toList ++ digs (crc 0 s) 4).set i ((s.data.toList ++ digs (crc 0 s) 4)[i] ^^^ b))) = false := by
  have hd : (digs (crc 0 s) 4).length = 4 := digs_length _ _
  by_cases h : i < s.data.toList.length
  · rw [List.set_append_left _ _ h, List.getElem_append_left h, rightS_mk _ _ hd, num_digs4 _ (crc_lt _ _), beq_eq_false_iff_ne]
    intro he
    have := (crc_one s.data.toList i h b).1 (by rw [data_mk]; exact he.symm)
    exact hb this
  · have hlt : i - s.data.toList.length < (digs (crc 0 s) 4).length := by
      rw [List.length_append] at hi
      omega
    rw [List.set_append_right _ _ (by omega), List.getElem_append_right (by omega), rightS_mk _ _ (by rw [List.length_set]; exact hd), data_mk, beq_eq_false_iff_ne]
    intro he
    have h2 := num_inj (m := digs (crc 0 s) 4) (by rw [List.length_set]) (he.trans (num_digs4 _ (crc_lt _ _)).symm)
    have h3 := congrArg (fun l => l[i - s.data.toList.length]?) h2
    simp only [List.getElem?_set_self hlt, List.getElem?_eq_getElem hlt, Option.some.injEq] at h3
    apply hb
    have h4 := congrArg (fun z => (digs (crc 0 s) 4)[i - s.data.toList.length]'hlt ^^^ z) h3
    simpa [← UInt8.xor_assoc] using h4
theorem SumEnds : counterfoillaw02_SumEnds.Pure := by
  intro s i y hs0 hi hy
  have hy2 : 0 ≤ y ∧ y ≤ 255 := by simpa [Lit.wf, IntKind.min, IntKind.max, IntKind.signed, IntKind.bits] using hy
  obtain ⟨b, rfl⟩ := byte_of hy2.1 hy2.2
  have hs : s.size ≤ 140737488351232 := hs0
  have hl : s.data.toList.length = s.size := by simp
  have hd : (digs (crc 0 s) 4).length = 4 := digs_length _ _
  have hz : (mk (s.data.toList ++ digs (crc 0 s) 4)).size = s.size + 4 := by rw [mk_size, List.length_append, hl, hd]
  have hr : rightS (mk (s.data.toList ++ digs (crc 0 s) 4)) = true := by rw [rightS_mk _ _ hd, num_digs4 _ (crc_lt _ _), data_mk]; simp
  unfold counterfoillaw02_SumEnds.f
  rw [of_eq s (by omega)]
  simp only [Option.bind_some]
  rw [ends_mk, nums_ints, right_eq _ (by omega), hr]
  simp only [Option.bind_some, if_true]
  by_cases h1 : i < 0
  · rw [if_pos h1]; exact awake_eq
  rw [if_neg h1]
  by_cases h2 : i ≥ ((s.size + 4 : Nat) : Int)
  · rw [if_pos h2]; exact awake_eq
  rw [if_neg h2]
  by_cases h3 : (b.toNat : Int) = 0
  · rw [if_pos h3]; exact awake_eq
  rw [if_neg h3]
  have hb : b ≠ 0 := fun h => h3 (by rw [h]; rfl)
  obtain ⟨i, rfl⟩ := Int.eq_ofNat_of_zero_le (show 0 ≤ i by omega)
  have hlt : i < (s.data.toList ++ digs (crc 0 s) 4).length := by rw [List.length_append, hl, hd]; omega
  rw [Int.toNat_natCast, rd_ints _ _ hlt, xor_byte, ints_set, nums_ints, right_eq _ (by rw [mk_size, List.length_set, List.length_append, hl, hd]; omega), turned_wrong s i b hb hlt]
  simp only [Option.bind_some]
  rw [if_neg (by simp)]
  exact awake_eq
end Go.Proofs.Ytpejcejkgbbbbaa.Pure
