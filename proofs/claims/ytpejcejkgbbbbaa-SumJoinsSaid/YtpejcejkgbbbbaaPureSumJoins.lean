/- For all begins and texts, SumJoins answers true: going on by parts is as at once. -/
import Derived.Test.YtpejcejkgbbbbaaPx1
import Derived.Test.YtpejcejkgbbbbaaSum
namespace Go.Proofs.Ytpejcejkgbbbbaa.Pure
open Go.RowKit Go.Proofs.Ytpejcejkgbbbbaa.P Go.Proofs.Ytpejcejkgbbbbaa.Core Go.Proofs.Ytpejcejkgbbbbaa.Crc Go.Proofs.Ytpejcejkgbbbbaa.Sum Go.Proofs.YtpejcejkgbbbbaaW.PrintWords Go.Proofs.YtpejcejkgbbbbaaW.PrintLast Go.Proofs.YtpejcejkgbbbbaaW.PrintMore
set_option linter.unusedVariables false
set_option linter.unusedSimpArgs false

theorem joins (n : Int) (a b : ByteArray) (x y z : Int) (h1 : sum_On.f n a = some x) (h2 : sum_On.f x b = some y) (h3 : sum_On.f n (a ++ b) = some y) (h4 : sum_On.f 0 a = some z) (h5 : sum_Of.f a = some z) (hab : a.size + b.size ≤ 9223372036854775807) : counterfoillaw02_SumJoins.f n a b = some true := by
  unfold counterfoillaw02_SumJoins.f
  rw [h1]
  simp only [Option.bind_some]
  rw [h2]
  simp only [Option.bind_some]
  rw [if_pos hab, h3, h4, h5, awake_eq]
  simp
theorem SumJoins : counterfoillaw02_SumJoins.Pure := by
  intro n a b hn ha hb
  have hn2 : 0 ≤ n ∧ n ≤ 4294967295 := by simpa [Lit.wf, IntKind.min, IntKind.max, IntKind.signed, IntKind.bits] using hn
  obtain ⟨n, rfl⟩ := Int.eq_ofNat_of_zero_le hn2.1
  have h0 := on_eq 0 a (by omega) (by omega)
  rw [show ((0 : Nat) : Int) = 0 from rfl] at h0
  have hab : (a ++ b).size = a.size + b.size := ByteArray.size_append
  have h2 := on_eq (crc n a) b (crc_lt _ _) (by omega)
  rw [crc_append] at h2
  exact joins n a b _ _ _ (on_eq n a (by omega) (by omega)) h2 (on_eq n (a ++ b) (by omega) (by omega)) h0 (of_eq a (by omega)) (by omega)
end Go.Proofs.Ytpejcejkgbbbbaa.Pure
