/- For all texts and widths, OctetNumbers answers true: Number tells what the reference tells. -/
import Derived.Test.YtbnkmdcfillhoaaPx3
import Derived.Test.YtbnkmdcfillhoaaOct
namespace Go.Proofs.Ytbnkmdcfillhoaa.Pure
open Go.RowKit Go.Proofs.Ytbnkmdcfillhoaa.P Go.Proofs.Ytbnkmdcfillhoaa.Core Go.Proofs.Ytbnkmdcfillhoaa.Oct Go.Proofs.YtbnkmdcfillhoaaW.PrintWords Go.Proofs.YtbnkmdcfillhoaaW.PrintLast Go.Proofs.YtbnkmdcfillhoaaW.PrintMore
set_option linter.unusedVariables false
set_option linter.unusedSimpArgs false

theorem OctetNumbers : counterfoillaw01_OctetNumbers.Pure := by
  intro s w hs hw
  refine ⟨20, ?_⟩
  unfold counterfoillaw01_OctetNumbers.f
  rw [number_eq s w (by omega), rnumber_eq s w (by omega), awake_eq (by omega)]
  simp

end Go.Proofs.Ytbnkmdcfillhoaa.Pure
