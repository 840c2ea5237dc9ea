/- For all texts of at most 2^14 bytes (longer ones pass by), OctetItems answers true: Items tells the list and the rest that the reference tells. -/
import Derived.Test.YtbnkmdcfillhoaaPx5
import Derived.Test.YtbnkmdcfillhoaaOctB
namespace Go.Proofs.Ytbnkmdcfillhoaa.Pure
open Go.RowKit Go.Proofs.Ytbnkmdcfillhoaa.P Go.Proofs.Ytbnkmdcfillhoaa.Core Go.Proofs.Ytbnkmdcfillhoaa.Oct Go.Proofs.YtbnkmdcfillhoaaW.PrintWords Go.Proofs.YtbnkmdcfillhoaaW.PrintLast Go.Proofs.YtbnkmdcfillhoaaW.PrintMore
set_option linter.unusedVariables false
set_option linter.unusedSimpArgs false

theorem OctetItems : counterfoillaw01_OctetItems.Pure := by
  intro s hs
  refine ⟨70000, ?_⟩
  unfold counterfoillaw01_OctetItems.f
  rw [awake_eq (by omega)]
  by_cases h : (s.size : Int) > 16384
  · rw [if_pos h]; rfl
  have hl := itemsS_length s
  rw [if_neg h, items_eq s (by omega), ritems_eq s hs (by omega)]
  simp only [Option.bind_some]
  rw [same_eq _ _ (by omega) (by omega)]
  simp

end Go.Proofs.Ytbnkmdcfillhoaa.Pure
