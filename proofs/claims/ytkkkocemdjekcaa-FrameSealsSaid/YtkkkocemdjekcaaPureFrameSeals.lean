/- For all kinds and bodies, FrameSeals answers true: Seal writes the frame that the reference writes, or refuses with the same error. -/
import Derived.Test.YtkkkocemdjekcaaPx2
import Derived.Test.YtkkkocemdjekcaaFrame
import Derived.Test.YtkkkocemdjekcaaFrameA
namespace Go.Proofs.Ytkkkocemdjekcaa.Pure
open Go.RowKit Go.Proofs.Ytkkkocemdjekcaa.P Go.Proofs.Ytkkkocemdjekcaa.Core Go.Proofs.Ytkkkocemdjekcaa.Crc Go.Proofs.Ytkkkocemdjekcaa.Conv Go.Proofs.Ytkkkocemdjekcaa.Sum Go.Proofs.Ytkkkocemdjekcaa.Oct Go.Proofs.Ytkkkocemdjekcaa.Frame Go.Proofs.YtkkkocemdjekcaaW.PrintWords Go.Proofs.YtkkkocemdjekcaaW.PrintLast Go.Proofs.YtkkkocemdjekcaaW.PrintMore
set_option linter.unusedVariables false
set_option linter.unusedSimpArgs false

theorem FrameSeals : counterfoillaw03_FrameSeals.Pure := by
  intro k b hk hb
  refine ⟨50001, ?_⟩
  unfold counterfoillaw03_FrameSeals.f
  rw [seal_eq k b (by omega), rseal_eq k b (by omega), awake_eq (by omega)]
  simp
end Go.Proofs.Ytkkkocemdjekcaa.Pure
