/- For all begins and texts, SumJoins answers true: going on by parts is as at once. -/
import Derived.Test.YtpejcejkgbbbbaaPx1
import Derived.Test.YtpejcejkgbbbbaaSum
namespace Go.Proofs.Ytpejcejkgbbbbaa.Pure
open Go.RowKit Go.Proofs.Ytpejcejkgbbbbaa.P Go.Proofs.Ytpejcejkgbbbbaa.Core Go.Proofs.Ytpejcejkgbbbbaa.Crc Go.Proofs.Ytpejcejkgbbbbaa.Sum Go.Proofs.YtpejcejkgbbbbaaW.PrintWords Go.Proofs.YtpejcejkgbbbbaaW.PrintLast Go.Proofs.YtpejcejkgbbbbaaW.PrintMore
set_option linter.unusedVariables false
set_option linter.unusedSimpArgs false

theorem SumJoins : counterfoillaw02_SumJoins.Pure := by
  intro n a b hn ha hb
  have hn2 : 0 ≤ n ∧ n ≤ 4294967295 := by simpa [Lit.wf, IntKind.min, IntKind.max, IntKind.signed, IntKind.bits] using hn
  obtain ⟨n, rfl⟩ := Int.eq_ofNat_of_zero_le hn2.1
  have h0 := on_eq 0 a (by omega) (by omega)
  rw [show ((0 : Nat) : Int) = 0 from rfl] at h0
  have hab : (a ++ b).size = a.size + b.size := ByteArray.size_append
  unfold counterfoillaw02_SumJoins.f
  rw [on_eq n a (by omega) (by omega)]
  simp only [Option.bind_some]
  rw [on_eq _ b (crc_lt _ _) (by omega)]
  simp only [Option.bind_some]
  rw [if_pos (by omega), on_eq n (a ++ b) (by omega) (by omega), h0, of_eq a (by omega), awake_eq, crc_append]
  simp
end Go.Proofs.Ytpejcejkgbbbbaa.Pure
