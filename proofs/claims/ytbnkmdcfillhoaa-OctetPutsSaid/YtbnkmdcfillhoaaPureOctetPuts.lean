/- For all int n and width, OctetPuts answers true: Put writes what the reference writes, or refuses with the same error. -/
import Derived.Test.YtbnkmdcfillhoaaPx2
import Derived.Test.YtbnkmdcfillhoaaOct
namespace Go.Proofs.Ytbnkmdcfillhoaa.Pure
open Go.RowKit Go.Proofs.Ytbnkmdcfillhoaa.P Go.Proofs.Ytbnkmdcfillhoaa.Core Go.Proofs.Ytbnkmdcfillhoaa.Oct Go.Proofs.YtbnkmdcfillhoaaW.PrintWords Go.Proofs.YtbnkmdcfillhoaaW.PrintLast Go.Proofs.YtbnkmdcfillhoaaW.PrintMore
set_option linter.unusedVariables false
set_option linter.unusedSimpArgs false

theorem OctetPuts : counterfoillaw01_OctetPuts.Pure := by
  intro n w hn hw
  refine ⟨20, ?_⟩
  unfold counterfoillaw01_OctetPuts.f
  rw [put_eq hn hw (by omega), rput_eq hn hw (by omega), awake_eq (by omega)]
  simp

end Go.Proofs.Ytbnkmdcfillhoaa.Pure
