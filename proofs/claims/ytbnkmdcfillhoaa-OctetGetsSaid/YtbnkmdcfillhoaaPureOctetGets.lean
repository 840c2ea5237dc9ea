/- For all texts, OctetGets answers true: Get tells the number that the reference tells, or refuses with the same error. -/
import Derived.Test.YtbnkmdcfillhoaaPx2
import Derived.Test.YtbnkmdcfillhoaaOct
namespace Go.Proofs.Ytbnkmdcfillhoaa.Pure
open Go.RowKit Go.Proofs.Ytbnkmdcfillhoaa.P Go.Proofs.Ytbnkmdcfillhoaa.Core Go.Proofs.Ytbnkmdcfillhoaa.Oct Go.Proofs.YtbnkmdcfillhoaaW.PrintWords Go.Proofs.YtbnkmdcfillhoaaW.PrintLast Go.Proofs.YtbnkmdcfillhoaaW.PrintMore
set_option linter.unusedVariables false
set_option linter.unusedSimpArgs false

theorem OctetGets : counterfoillaw01_OctetGets.Pure := by
  intro s hs
  refine ⟨20, ?_⟩
  unfold counterfoillaw01_OctetGets.f
  rw [get_eq s (by omega), rget_eq s (by omega), awake_eq (by omega)]
  simp

end Go.Proofs.Ytbnkmdcfillhoaa.Pure
