/- For all texts, OctetTexts answers true: Text writes, and Take takes off, what the references do. -/
import Derived.Test.YtbnkmdcfillhoaaPx4
import Derived.Test.YtbnkmdcfillhoaaOctB
namespace Go.Proofs.Ytbnkmdcfillhoaa.Pure
open Go.RowKit Go.Proofs.Ytbnkmdcfillhoaa.P Go.Proofs.Ytbnkmdcfillhoaa.Core Go.Proofs.Ytbnkmdcfillhoaa.Oct Go.Proofs.YtbnkmdcfillhoaaW.PrintWords Go.Proofs.YtbnkmdcfillhoaaW.PrintLast Go.Proofs.YtbnkmdcfillhoaaW.PrintMore
set_option linter.unusedVariables false
set_option linter.unusedSimpArgs false

theorem OctetTexts : counterfoillaw01_OctetTexts.Pure := by
  intro s hs
  refine ⟨20, ?_⟩
  unfold counterfoillaw01_OctetTexts.f
  rw [text_eq s hs (by omega), rtext_eq s hs, take_eq s (by omega), rtake_eq s hs, awake_eq (by omega)]
  simp

end Go.Proofs.Ytbnkmdcfillhoaa.Pure
