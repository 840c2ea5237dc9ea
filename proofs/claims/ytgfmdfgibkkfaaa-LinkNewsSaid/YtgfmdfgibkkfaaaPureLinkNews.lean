/- For all numbers, LinkNews answers true: an end begins as the document says. -/
import Derived.Test.YtgfmdfgibkkfaaaPx8
import Derived.Test.YtgfmdfgibkkfaaaLinkB
namespace Go.Proofs.Ytgfmdfgibkkfaaa.Pure
open Go.RowKit Go.Proofs.Ytgfmdfgibkkfaaa.P Go.Proofs.Ytgfmdfgibkkfaaa.Core Go.Proofs.Ytgfmdfgibkkfaaa.Oct Go.Proofs.Ytgfmdfgibkkfaaa.Frame Go.Proofs.Ytgfmdfgibkkfaaa.Link Go.Proofs.YtgfmdfgibkkfaaaW.PrintWords Go.Proofs.YtgfmdfgibkkfaaaW.PrintLast Go.Proofs.YtgfmdfgibkkfaaaW.PrintMore
set_option linter.unusedVariables false
set_option linter.unusedSimpArgs false

theorem LinkNews : counterfoillaw15_LinkNews.Pure := by
  intro n hn
  obtain ⟨k, hk⟩ : ∃ k, 200000 ≤ k := ⟨200000, Nat.le_refl _⟩
  refine ⟨k + 1, ?_⟩
  have hn2 := wf_i64.1 hn
  have hz : ([] : List ByteArray).length ≤ 100000 := by simp
  have ha := awake_eq (k := k) (by omega)
  unfold counterfoillaw15_LinkNews.f
  rw [new_eq]
  simp only [Option.bind_some]
  by_cases h1 : n < 1
  · rw [if_pos h1, if_neg (by omega), counterfoillaw15_LinkNews.j0, if_pos rfl]
    simp only [ref_eq, Option.bind_some, equal_same 0 0 0 0 [] hz (k := k) (by omega), ha]
    rfl
  · rw [if_neg h1]
    by_cases h2 : n > 1099511627776
    · rw [decide_eq_true h2, if_neg (by omega), counterfoillaw15_LinkNews.j0, if_pos rfl]
      simp only [ref_eq, Option.bind_some, equal_same 0 0 0 0 [] hz (k := k) (by omega), ha]
      rfl
    · rw [decide_eq_false h2, if_pos (show 1 ≤ n ∧ n ≤ 1099511627776 by omega), counterfoillaw15_LinkNews.j0, if_neg (by decide)]
      simp only [ref_eq, Option.bind_some, equal_same n 0 1 1 [] hz (k := k) (by omega), ha]
      rfl

end Go.Proofs.Ytgfmdfgibkkfaaa.Pure
