/- For all texts, SumRight answers true: whether a text ends in its sum is told as the reference tells it. -/
import Derived.Test.YtpejcejkgbbbbaaPx1
import Derived.Test.YtpejcejkgbbbbaaSum
namespace Go.Proofs.Ytpejcejkgbbbbaa.Pure
open Go.RowKit Go.Proofs.Ytpejcejkgbbbbaa.P Go.Proofs.Ytpejcejkgbbbbaa.Core Go.Proofs.Ytpejcejkgbbbbaa.Crc Go.Proofs.Ytpejcejkgbbbbaa.Sum Go.Proofs.YtpejcejkgbbbbaaW.PrintWords Go.Proofs.YtpejcejkgbbbbaaW.PrintLast Go.Proofs.YtpejcejkgbbbbaaW.PrintMore
set_option linter.unusedVariables false
set_option linter.unusedSimpArgs false

theorem SumRight : counterfoillaw02_SumRight.Pure := by
  intro s hs
  refine ⟨10 * s.size + 1, ?_⟩
  unfold counterfoillaw02_SumRight.f
  rw [right_eq s (by omega), rright_eq s hs (Nat.le_refl _), awake_eq]
  simp
end Go.Proofs.Ytpejcejkgbbbbaa.Pure
