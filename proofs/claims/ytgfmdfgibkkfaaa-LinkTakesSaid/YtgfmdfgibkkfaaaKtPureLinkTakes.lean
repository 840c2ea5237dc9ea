import Derived.Test.YtgfmdfgibkkfaaaKtPx6
import Derived.Test.YtgfmdfgibkkfaaaKtLinkD
import Derived.Test.YtgfmdfgibkkfaaaKtHLinkTakes
namespace Go.Proofs.Ytgfmdfgibkkfaaa.Pure
open Go.RowKit Go.Proofs.Ytgfmdfgibkkfaaa.P Go.Proofs.Ytgfmdfgibkkfaaa.Core Go.Proofs.Ytgfmdfgibkkfaaa.Oct Go.Proofs.Ytgfmdfgibkkfaaa.Frame Go.Proofs.Ytgfmdfgibkkfaaa.Link Go.Proofs.YtgfmdfgibkkfaaaW.PrintWords Go.Proofs.YtgfmdfgibkkfaaaW.PrintLast Go.Proofs.YtgfmdfgibkkfaaaW.PrintMore
set_option linter.unusedVariables false
set_option linter.unusedSimpArgs false
theorem gone_len (f : Nat) (l : List ByteArray) (n : Nat) : (goneS f l n).2.length ≤ l.length := by
  unfold goneS
  split
  · simp only [List.length_drop]; omega
  · exact Nat.le_refl _
theorem heard_len (a o f : Nat) (l : List ByteArray) (w : Nat) (anew : Bool) (h : Pk) : (heardS a o f l w anew h).l.length ≤ l.length := by
  have g := gone_len f l h.n3
  unfold heardS
  by_cases q1 : h.n1 ≠ a
  · rw [if_pos q1]; exact Nat.le_refl _
  · rw [if_neg q1]
    by_cases q2 : h.kind = 1
    · rw [if_pos q2]
      by_cases q3 : h.n2 = w ∧ w < 1099511627776
      · rw [if_pos q3]; exact g
      · rw [if_neg q3]; exact g
    · rw [if_neg q2]; exact g
theorem take_len (a o f : Nat) (l : List ByteArray) (w : Nat) (p : ByteArray) : (Link.takeS a o f l w p).l.length ≤ l.length := by
  unfold Link.takeS
  cases hh : hearS p with
  | none => exact Nat.le_refl _
  | some q =>
    show (if q.n0 < o then _ else _ : After).l.length ≤ _
    by_cases q1 : q.n0 < o
    · rw [if_pos q1]; exact Nat.le_refl _
    · rw [if_neg q1]
      by_cases q2 : o < q.n0
      · rw [if_pos q2]
        by_cases q3 : o = 0
        · rw [if_pos q3]; exact heard_len _ _ _ _ _ _ _
        · rw [if_neg q3]; exact Nat.le_trans (heard_len _ _ _ _ _ _ _) (Nat.zero_le _)
      · rw [if_neg q2]; exact heard_len _ _ _ _ _ _ _
theorem LinkTakes : counterfoillaw15_LinkTakes.Pure := by
  intro a o f l w p ha ho hf hl hw hp
  obtain ⟨k, hk⟩ : ∃ k, 200000 ≤ k := ⟨200000, Nat.le_refl _⟩
  refine ⟨k, ?_⟩
  have haw := awake_eq (k := k) (by omega)
  unfold counterfoillaw15_LinkTakes.f
  rw [few_eq a o f l w hl (by omega), haw, right_eq]
  simp only [Option.bind_some]
  by_cases hfew : l.length ≤ 100 ∧ tot l ≤ 131072
  · rw [decide_eq_true hfew, if_pos rfl]
    cases hr : rightS a o f l w with
    | false =>
      rw [take_bad a o f l w p hp (by omega) hr]
      simp only [Option.bind_some, link_Take.same]
      rw [if_neg (by decide), equal_same _ _ _ _ l (by omega) (by omega)]
      rfl
    | true =>
      obtain ⟨a, o, f, w, rfl, rfl, rfl, rfl⟩ := right_nat hr
      have hlen := take_len a o f l w p
      rw [take_good a o f w l p hp (by omega) hr, rtake_good a o f w l p hp (by omega) hr]
      generalize Link.takeS a o f l w p = t at *
      simp only [Option.bind_some, resS, rresS, if_true]
      rw [equal_same _ _ _ _ t.l (by omega) (by omega)]
      simp only [Option.bind_some, and_self, if_true]
  · rw [decide_eq_false hfew]; rfl
end Go.Proofs.Ytgfmdfgibkkfaaa.Pure
