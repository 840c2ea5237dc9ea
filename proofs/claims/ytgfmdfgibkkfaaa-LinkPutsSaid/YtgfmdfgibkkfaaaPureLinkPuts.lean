/- For all ends of at most 100 pieces and all pieces, LinkPuts answers true: what waits, and the packets of a tick, are what the document says. -/
import Derived.Test.YtgfmdfgibkkfaaaPx7
import Derived.Test.YtgfmdfgibkkfaaaLinkB
namespace Go.Proofs.Ytgfmdfgibkkfaaa.Pure
open Go.RowKit Go.Proofs.Ytgfmdfgibkkfaaa.P Go.Proofs.Ytgfmdfgibkkfaaa.Core Go.Proofs.Ytgfmdfgibkkfaaa.Oct Go.Proofs.Ytgfmdfgibkkfaaa.Frame Go.Proofs.Ytgfmdfgibkkfaaa.Link Go.Proofs.YtgfmdfgibkkfaaaW.PrintWords Go.Proofs.YtgfmdfgibkkfaaaW.PrintLast Go.Proofs.YtgfmdfgibkkfaaaW.PrintMore
set_option linter.unusedVariables false
set_option linter.unusedSimpArgs false

theorem LinkPuts : counterfoillaw15_LinkPuts.Pure := by
  intro a o f l w s ha ho hf hl hw hs
  obtain ⟨k, hk⟩ : ∃ k, 200000 ≤ k := ⟨200000, Nat.le_refl _⟩
  refine ⟨k, ?_⟩
  have haw := awake_eq (k := k) (by omega)
  unfold counterfoillaw15_LinkPuts.f
  rw [few_eq a o f l w hl (by omega), haw]
  simp only [Option.bind_some]
  by_cases hfew : l.length ≤ 100 ∧ tot l ≤ 131072
  · rw [decide_eq_true hfew, if_pos rfl]
    simp only [ref_eq, right_eq, rright_eq a o f w l (k := k) (by omega), Option.bind_some]
    cases hr : rightS a o f l w with
    | false =>
      rw [put_bad a o f l w s k hr, tick_bad a o f l w k hr]
      have hz : ([] : List ByteArray).length ≤ 100000 := by simp
      simp only [Option.bind_some, equal_same 0 0 0 0 [] hz (k := k) (by omega)]
      have hnil : (mk []).toList = [] := by decide +kernel
      rw [if_neg (by decide), if_neg (by decide), if_pos trivial, if_pos hnil, if_pos trivial]
      rfl
    | true =>
      obtain ⟨a, o, f, w, rfl, rfl, rfl, rfl⟩ := right_nat hr
      rw [put_good a o f l w s (k := k) (by omega) hr, tick_good a o f l w (k := k) (by omega) hr]
      simp only [Option.bind_some]
      rw [rput_good a o f l w s (k := k) (by omega) hr, rtick_good a o f l w (k := k) (by omega) hr]
      simp only [Option.bind_some]
      have hs := same_eq (tickS a o f l w (min l.length 4)) (tickS a o f l w (min l.length 4)) (by rw [tickS_length]; omega) (k := k) (by rw [tickS_length]; omega)
      rw [decide_eq_true rfl] at hs
      rw [hs]
      have hz : ([] : List ByteArray).length ≤ 100000 := by simp
      have hz2 : (l ++ [s]).length ≤ 100000 := by rw [List.length_append, List.length_singleton]; omega
      unfold putL putR
      by_cases c1 : 512 < s.size
      · rw [if_pos c1, if_pos c1]
        simp only [Option.bind_some, equal_same 0 0 0 0 [] hz (k := k) (by omega)]
        rfl
      · rw [if_neg c1, if_neg c1]
        by_cases c2 : l.length = 64 ∨ 1099511627776 < f + l.length
        · rw [if_pos c2, if_pos c2]
          simp only [Option.bind_some, equal_same 0 0 0 0 [] hz (k := k) (by omega)]
          rfl
        · rw [if_neg c2, if_neg c2]
          simp only [Option.bind_some, equal_same a o f w (l ++ [s]) hz2 (k := k) (by omega)]
          simp
  · rw [decide_eq_false hfew]; rfl

end Go.Proofs.Ytgfmdfgibkkfaaa.Pure
