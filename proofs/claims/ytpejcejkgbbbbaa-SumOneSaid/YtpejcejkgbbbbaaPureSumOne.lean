/- For all texts, places and bytes, SumOne answers true: a text of which one byte is turned has another sum. -/
import Derived.Test.YtpejcejkgbbbbaaPx0
import Derived.Test.YtpejcejkgbbbbaaSumB
import Derived.Test.YtpejcejkgbbbbaaHSumOne
namespace Go.Proofs.Ytpejcejkgbbbbaa.Pure
open Go.RowKit Go.Proofs.Ytpejcejkgbbbbaa.P Go.Proofs.Ytpejcejkgbbbbaa.Core Go.Proofs.Ytpejcejkgbbbbaa.Crc Go.Proofs.Ytpejcejkgbbbbaa.Conv Go.Proofs.Ytpejcejkgbbbbaa.Sum Go.Proofs.YtpejcejkgbbbbaaW.PrintWords Go.Proofs.YtpejcejkgbbbbaaW.PrintLast Go.Proofs.YtpejcejkgbbbbaaW.PrintMore
set_option linter.unusedVariables false
set_option linter.unusedSimpArgs false

theorem SumOne : counterfoillaw02_SumOne.Pure := by
  intro s i y hs hi hy
  have hy2 : 0 ≤ y ∧ y ≤ 255 := by simpa [Lit.wf, IntKind.min, IntKind.max, IntKind.signed, IntKind.bits] using hy
  obtain ⟨b, rfl⟩ := byte_of hy2.1 hy2.2
  unfold counterfoillaw02_SumOne.f
  by_cases h1 : i < 0
  · rw [if_pos h1]; exact awake_eq
  rw [if_neg h1]
  by_cases h2 : i ≥ (s.size : Int)
  · rw [if_pos h2]; exact awake_eq
  rw [if_neg h2]
  obtain ⟨i, rfl⟩ := Int.eq_ofNat_of_zero_le (show 0 ≤ i by omega)
  have hl : i < s.data.toList.length := by simpa using (show i < s.size by omega)
  rw [Int.toNat_natCast, bt_data s i (by omega), xor_byte, bytesOf_ints, ints_set, nums_ints]
  have hz : (mk (s.data.toList.set i (s.data.toList[i] ^^^ b))).size = s.size := by rw [mk_size]; simp
  rw [of_eq _ (by omega), of_eq _ (by omega)]
  have := crc_one s.data.toList i hl b
  rw [data_mk] at this
  simp only [Option.bind_some]
  rw [if_pos ?_]
  · exact awake_eq
  · rw [beq_iff_eq, Bool.eq_iff_iff]
    simp only [beq_iff_eq]
    constructor
    · intro h; rw [this.1 (by omega)]; rfl
    · intro h
      rw [this.2 (UInt8.toNat_inj.1 (by simpa using h))]
end Go.Proofs.Ytpejcejkgbbbbaa.Pure
