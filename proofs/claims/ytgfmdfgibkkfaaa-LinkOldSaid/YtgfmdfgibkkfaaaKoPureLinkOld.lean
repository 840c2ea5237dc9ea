/- For all ends of at most 100 pieces and all packets, LinkOld answers true: what comes from an older epoch, or is no packet, changes nothing. -/
import Derived.Test.YtgfmdfgibkkfaaaKoPx6
import Derived.Test.YtgfmdfgibkkfaaaKoPx7
import Derived.Test.YtgfmdfgibkkfaaaKoLinkD
import Derived.Test.YtgfmdfgibkkfaaaKoHLinkOld
namespace Go.Proofs.Ytgfmdfgibkkfaaa.Pure
open Go.RowKit Go.Proofs.Ytgfmdfgibkkfaaa.P Go.Proofs.Ytgfmdfgibkkfaaa.Core Go.Proofs.Ytgfmdfgibkkfaaa.Oct Go.Proofs.Ytgfmdfgibkkfaaa.Frame Go.Proofs.Ytgfmdfgibkkfaaa.Link Go.Proofs.YtgfmdfgibkkfaaaW.PrintWords Go.Proofs.YtgfmdfgibkkfaaaW.PrintLast Go.Proofs.YtgfmdfgibkkfaaaW.PrintMore
set_option linter.unusedVariables false
set_option linter.unusedSimpArgs false

theorem take_old (a o f w : Nat) (l : List ByteArray) (p : ByteArray) (h : ∀ q, hearS p = some q → q.n0 < o) : Link.takeS a o f l w p = ⟨o, f, l, w, mk [], false, mk [], false⟩ := by
  unfold Link.takeS
  cases hh : hearS p with
  | none => rfl
  | some q => exact if_pos (h q hh)
theorem LinkOld : counterfoillaw15_LinkOld.Pure := by
  intro a o f l w p ha ho hf hl hw hp
  obtain ⟨k, hk⟩ : ∃ k, 200000 ≤ k := ⟨200000, Nat.le_refl _⟩
  refine ⟨k, ?_⟩
  have haw := awake_eq (k := k) (by omega)
  unfold counterfoillaw15_LinkOld.f
  rw [few_eq a o f l w hl (by omega), haw, right_eq]
  simp only [Option.bind_some]
  by_cases hfew : l.length ≤ 100 ∧ tot l ≤ 131072
  · rw [decide_eq_true hfew, if_pos rfl]
    cases hr : rightS a o f l w with
    | false => rfl
    | true =>
      rw [if_pos rfl]
      obtain ⟨a, o, f, w, rfl, rfl, rfl, rfl⟩ := right_nat hr
      have hfin : (∀ q, hearS p = some q → q.n0 < o) → ((link_Take.f k a o f l w p).bind fun y => (counterfoilref15_Equal.f k a y.o y.f y.w y.l a o f w l).bind fun e => if e = true ∧ y.s = (⟨#[]⟩ : ByteArray) ∧ y.has = false ∧ y.reply = (⟨#[]⟩ : ByteArray) ∧ y.anew = false then some true else some false) = some true := by
        intro ho
        rw [take_good a o f w l p hp (by omega) hr, take_old a o f w l p ho]
        simp only [Option.bind_some, resS]
        rw [equal_same _ _ _ _ l (by omega) (by omega)]
        rfl
      cases hh : hearS p with
      | none =>
        rw [heard_none p hp hh (by omega)]
        simp only [Option.bind_some]
        rw [if_neg (fun h => h.1 rfl)]
        exact hfin (fun q hq => by rw [hh] at hq; cases hq)
      | some q =>
        obtain ⟨g1, _⟩ := hear_spec hh
        rw [heard_some p hp hh (by omega)]
        simp only [Option.bind_some]
        by_cases q1 : q.kind ≠ 0 ∧ (o : Int) ≤ (q.n0 : Int)
        · rw [if_pos q1]
        · rw [if_neg q1]
          have hq0 : q.kind ≠ 0 := by rcases g1 with g1 | g1 <;> rw [g1] <;> decide
          have hlt : q.n0 < o := by have : ¬ (o : Int) ≤ (q.n0 : Int) := fun h => q1 ⟨hq0, h⟩; clear q1; omega
          exact hfin (fun q' hq => by rw [hh] at hq; cases hq; exact hlt)
  · rw [decide_eq_false hfew]; rfl

end Go.Proofs.Ytgfmdfgibkkfaaa.Pure
