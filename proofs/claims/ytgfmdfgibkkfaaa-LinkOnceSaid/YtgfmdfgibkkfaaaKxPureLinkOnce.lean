import Derived.Test.YtgfmdfgibkkfaaaKxPx0
import Derived.Test.YtgfmdfgibkkfaaaKxPx6
import Derived.Test.YtgfmdfgibkkfaaaKxLinkG
import Derived.Test.YtgfmdfgibkkfaaaKxHLinkOnce
import Derived.SizedLaws
import Derived.ChangeSlices
set_option linter.unusedVariables false
set_option linter.unusedSimpArgs false
namespace Go.Proofs.Ytgfmdfgibkkfaaa.Pure
open Go.RowKit Go.Proofs.Ytgfmdfgibkkfaaa.P Go.Proofs.Ytgfmdfgibkkfaaa.Core Go.Proofs.Ytgfmdfgibkkfaaa.Oct Go.Proofs.Ytgfmdfgibkkfaaa.Frame Go.Proofs.Ytgfmdfgibkkfaaa.Link Go.Proofs.YtgfmdfgibkkfaaaW.PrintWords Go.Proofs.YtgfmdfgibkkfaaaW.PrintLast Go.Proofs.YtgfmdfgibkkfaaaW.PrintMore
theorem begins_take (l : List ByteArray) (n k : Nat) (hl : l.length ≤ 1000) (hk : 1001 ≤ k) : counterfoillaw15_begins.f k (l.take n) l = some true := by
  unfold counterfoillaw15_begins.f
  have h1 : (l.take n).length ≤ l.length := by rw [List.length_take]; omega
  rw [if_pos h1, same_eq _ _ (by omega) (by omega)]
  congr 1
  refine decide_eq_true ?_
  rw [List.length_take, List.take_eq_take_iff]
  omega
theorem LinkOnce_go (k : Nat) (hk : 1001 ≤ k) : ∀ (l : List S55) (n : Nat) (L : LS) (e0 e1 : En), Inv (120 - n) L e0 e1 → n ≤ 120 → once k l n L = some true := by
  intro l
  induction l with
  | nil => intro n L e0 e1 _ _; rw [once, awake_eq (by omega)]
  | cons a r ih =>
    intro n L e0 e1 h hn
    rw [once]
    by_cases c1 : n = 0
    · rw [if_pos c1, awake_eq (by omega)]
    rw [if_neg c1]
    by_cases c2 : 600 < a.f2.size
    · rw [if_pos c2, awake_eq (by omega)]
    rw [if_neg c2]
    obtain ⟨L', e0', e1', ha, hi⟩ := inv_act h (by omega) a (by omega) k (by omega)
    rw [ha]
    simp only [Option.bind_some]
    have b1 := begins_take L'.p1 (e0'.w - 1) k (by have := hi.n1; omega) hk
    have b2 := begins_take L'.p0 (e1'.w - 1) k (by have := hi.n0; omega) hk
    rw [← hi.d1.came] at b1
    rw [← hi.d0.came] at b2
    rw [b1]
    simp only [Option.bind_some, if_true]
    rw [b2]
    simp only [Option.bind_some, if_true]
    refine ih (n - 1) L' e0' e1' ?_ (by omega)
    rwa [show 120 - (n - 1) = 120 - n + 1 by omega]
theorem LinkOnce : counterfoillaw15_LinkOnce.Pure := by
  intro l _
  exact ⟨1001, LinkOnce_go 1001 (by omega) l 120 LS.init _ _ inv_init (by omega)⟩
end Go.Proofs.Ytgfmdfgibkkfaaa.Pure
namespace Go.Proofs.YtgfmdfgibkkfaaaW.PrintWords
open Go.ChangeShapes Go.WideShapes
end Go.Proofs.YtgfmdfgibkkfaaaW.PrintWords
