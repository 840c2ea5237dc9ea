/- Every list of texts is written as the document says. -/
import Derived.Test.YtbnkmdcfillhoaaPx1
import Derived.Test.YtbnkmdcfillhoaaPx3
import Derived.Test.YtbnkmdcfillhoaaPx4
import Derived.Test.YtbnkmdcfillhoaaOctL
namespace Go.Proofs.Ytbnkmdcfillhoaa.Pure
open Go.RowKit Go.Proofs.Ytbnkmdcfillhoaa.P Go.Proofs.Ytbnkmdcfillhoaa.Core Go.Proofs.Ytbnkmdcfillhoaa.Oct Go.Proofs.YtbnkmdcfillhoaaW.PrintWords Go.Proofs.YtbnkmdcfillhoaaW.PrintLast Go.Proofs.YtbnkmdcfillhoaaW.PrintMore
set_option linter.unusedVariables false
set_option linter.unusedSimpArgs false

theorem lists (l : List ByteArray) (k : Nat) (b : Bool) (x : ByteArray × Int) (h1 : counterfoilref01_Small.f k l 200 262144 = some b) (h2 : b = true → octet_List.f k l = some x) (h3 : b = true → counterfoilref01_List.f k l = some x) (h4 : counterfoillaw01_awake.f k = some true) : counterfoillaw01_OctetLists.f k l = some true := by
  unfold counterfoillaw01_OctetLists.f
  rw [h1]
  simp only [Option.bind_some]
  cases b with
  | false => rw [if_neg (by decide), h4]; rfl
  | true =>
    rw [if_pos rfl, h2 rfl, h3 rfl, h4]
    simp
theorem OctetLists : counterfoillaw01_OctetLists.Pure := by
  intro l ⟨h1, h2, h3⟩
  refine ⟨70000, ?_⟩
  have hs := small_eq l 200 262144 (by decide) h3 (by omega) (k := 70000) (by decide)
  refine lists l 70000 _ (listS l) hs (fun h => ?_) (fun h => ?_) (awake_eq (by decide))
  · have := of_decide_eq_true h
    exact list_eq l (by omega) h3 (by omega) (by decide)
  · have := of_decide_eq_true h
    exact rlist_eq l (by omega) h3 (by omega) (by omega)
end Go.Proofs.Ytbnkmdcfillhoaa.Pure
