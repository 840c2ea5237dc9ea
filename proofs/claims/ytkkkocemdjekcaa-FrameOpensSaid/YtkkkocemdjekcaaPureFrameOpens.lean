/- For all texts, FrameOpens answers true: Open tells what the reference tells, or refuses with the same error. -/
import Derived.Test.YtkkkocemdjekcaaPx4
import Derived.Test.YtkkkocemdjekcaaFrame
import Derived.Test.YtkkkocemdjekcaaFrameA
namespace Go.Proofs.Ytkkkocemdjekcaa.Pure
open Go.RowKit Go.Proofs.Ytkkkocemdjekcaa.P Go.Proofs.Ytkkkocemdjekcaa.Core Go.Proofs.Ytkkkocemdjekcaa.Crc Go.Proofs.Ytkkkocemdjekcaa.Conv Go.Proofs.Ytkkkocemdjekcaa.Sum Go.Proofs.Ytkkkocemdjekcaa.Oct Go.Proofs.Ytkkkocemdjekcaa.Frame Go.Proofs.YtkkkocemdjekcaaW.PrintWords Go.Proofs.YtkkkocemdjekcaaW.PrintLast Go.Proofs.YtkkkocemdjekcaaW.PrintMore
set_option linter.unusedVariables false
set_option linter.unusedSimpArgs false

theorem FrameOpens : counterfoillaw03_FrameOpens.Pure := by
  intro s hs
  refine ⟨50001, ?_⟩
  unfold counterfoillaw03_FrameOpens.f
  rw [open_eq s hs (by omega), ropen_eq s hs (by omega), awake_eq (by omega)]
  simp
end Go.Proofs.Ytkkkocemdjekcaa.Pure
