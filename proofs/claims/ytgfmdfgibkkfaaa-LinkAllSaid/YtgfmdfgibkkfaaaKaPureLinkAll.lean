import Derived.Test.YtgfmdfgibkkfaaaKaPx0
import Derived.Test.YtgfmdfgibkkfaaaKaLinkI
import Derived.SizedLaws
import Derived.ChangeSlices
set_option linter.unusedVariables false
set_option linter.unusedSimpArgs false
namespace Go.Proofs.Ytgfmdfgibkkfaaa.Pure
open Go.RowKit Go.Proofs.Ytgfmdfgibkkfaaa.P Go.Proofs.Ytgfmdfgibkkfaaa.Core Go.Proofs.Ytgfmdfgibkkfaaa.Oct Go.Proofs.Ytgfmdfgibkkfaaa.Frame Go.Proofs.Ytgfmdfgibkkfaaa.Link Go.Proofs.YtgfmdfgibkkfaaaW.PrintWords Go.Proofs.YtgfmdfgibkkfaaaW.PrintLast Go.Proofs.YtgfmdfgibkkfaaaW.PrintMore
theorem fin_all {k : Nat} (hk : 1001 ≤ k) {N : Nat} (hN : N ≤ 900) {L : LS} {e0 e1 : En} (h : Inv N L e0 e1) : ((rounds k 64 L).bind (LS.fin k)) = some true := by
  obtain ⟨n, hn, hm⟩ : ∃ n, 64 = n + 1 ∧ 63 ≤ n := ⟨63, rfl, Nat.le_refl _⟩
  rw [hn]
  exact fin_run hk hN hm h
theorem LinkAll_go (k : Nat) (hk : 1001 ≤ k) : ∀ (l : List S55) (n : Nat) (L : LS) (e0 e1 : En), Inv (100 - n) L e0 e1 → n ≤ 100 → allGo k l n L = some true := by
  intro l
  induction l with
  | nil => intro n L e0 e1 h _; rw [allGo]; exact fin_all hk (by omega) h
  | cons a r ih =>
    intro n L e0 e1 h hn
    rw [allGo]
    by_cases c1 : n = 0
    · rw [if_pos c1]; exact fin_all hk (by omega) h
    rw [if_neg c1]
    by_cases c2 : 600 < a.f2.size
    · rw [if_pos c2, awake_eq (by omega)]
    rw [if_neg c2]
    obtain ⟨L', e0', e1', ha, hi⟩ := inv_act h (by omega) a (by omega) k (by omega)
    rw [ha]
    simp only [Option.bind_some]
    refine ih (n - 1) L' e0' e1' ?_ (by omega)
    rwa [show 100 - (n - 1) = 100 - n + 1 by omega]
theorem LinkAll : counterfoillaw15_LinkAll.Pure := by
  intro l _
  exact ⟨1001, LinkAll_go 1001 (by omega) l 100 LS.init _ _ inv_init (by omega)⟩
end Go.Proofs.Ytgfmdfgibkkfaaa.Pure
namespace Go.Proofs.YtgfmdfgibkkfaaaW.PrintWords
open Go.ChangeShapes Go.WideShapes
end Go.Proofs.YtgfmdfgibkkfaaaW.PrintWords
