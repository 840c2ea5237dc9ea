/- For all begins and texts, SumTells answers true: On and Of are the sums that the reference reckons bit by bit. -/
import Derived.Test.YtpejcejkgbbbbaaPx1
import Derived.Test.YtpejcejkgbbbbaaSum
namespace Go.Proofs.Ytpejcejkgbbbbaa.Pure
open Go.RowKit Go.Proofs.Ytpejcejkgbbbbaa.P Go.Proofs.Ytpejcejkgbbbbaa.Core Go.Proofs.Ytpejcejkgbbbbaa.Crc Go.Proofs.Ytpejcejkgbbbbaa.Sum Go.Proofs.YtpejcejkgbbbbaaW.PrintWords Go.Proofs.YtpejcejkgbbbbaaW.PrintLast Go.Proofs.YtpejcejkgbbbbaaW.PrintMore
set_option linter.unusedVariables false
set_option linter.unusedSimpArgs false

theorem SumTells : counterfoillaw02_SumTells.Pure := by
  intro a s ha hs
  have ha2 : 0 ≤ a ∧ a ≤ 4294967295 := by simpa [Lit.wf, IntKind.min, IntKind.max, IntKind.signed, IntKind.bits] using ha
  obtain ⟨n, rfl⟩ := Int.eq_ofNat_of_zero_le ha2.1
  refine ⟨10 * s.size + 1, ?_⟩
  have h0 := ron_eq 0 s (by omega) hs (Nat.le_refl _)
  rw [show ((0 : Nat) : Int) = 0 from rfl] at h0
  unfold counterfoillaw02_SumTells.f
  rw [on_eq n s (by omega) (by omega), ron_eq n s (by omega) hs (Nat.le_refl _), of_eq s (by omega), h0, awake_eq]
  simp
end Go.Proofs.Ytpejcejkgbbbbaa.Pure
