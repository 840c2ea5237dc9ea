/- For all numbers, widths and lengths, OctetShort answers true: of a written number that lacks bytes at its end Number tells only that it is short. -/
import Derived.Test.YtbnkmdcfillhoaaPx3
import Derived.Test.YtbnkmdcfillhoaaOct
namespace Go.Proofs.Ytbnkmdcfillhoaa.Pure
open Go.RowKit Go.Proofs.Ytbnkmdcfillhoaa.P Go.Proofs.Ytbnkmdcfillhoaa.Core Go.Proofs.Ytbnkmdcfillhoaa.Oct Go.Proofs.YtbnkmdcfillhoaaW.PrintWords Go.Proofs.YtbnkmdcfillhoaaW.PrintLast Go.Proofs.YtbnkmdcfillhoaaW.PrintMore
set_option linter.unusedVariables false
set_option linter.unusedSimpArgs false

theorem OctetShort : counterfoillaw01_OctetShort.Pure := by
  intro n w c hn hw hc
  refine ⟨20, ?_⟩
  unfold counterfoillaw01_OctetShort.f
  rw [put_eq hn hw (by omega)]
  simp only [Option.bind_some]
  have yes : ∀ s, counterfoillaw01_OctetShort.j0 20 w c s true = some true := by
    intro s
    simp only [counterfoillaw01_OctetShort.j0]
    rw [if_pos trivial, awake_eq (by omega)]
    rfl
  by_cases he : (putS n w).2 = 0
  · rw [if_pos he]
    obtain ⟨h1, h8, h0, hlt, hp⟩ := putS_ok he
    by_cases hc0 : c < 0
    · rw [if_pos hc0, yes]
    rw [if_neg hc0]
    by_cases hc1 : c ≥ ((putS n w).1.size : Int)
    · rw [decide_eq_true hc1, yes]
    rw [decide_eq_false hc1]
    have hsz : (putS n w).1.size = w.toNat := by rw [hp, mk_size, digs_length]
    simp only [counterfoillaw01_OctetShort.j0]
    rw [if_neg (by simp), if_pos (by omega), if_pos (by omega), number_eq _ _ (by omega), awake_eq (by omega)]
    have hx : numberS ((putS n w).1.extract 0 c.toNat) w = (0, mk [], 2) := by
      unfold numberS
      rw [if_neg (by omega), if_pos (by rw [ByteArray.size_extract]; omega)]
    rw [hx]
    simp [ByteArray.toList_eq, mk]
  · rw [if_neg he, yes]

end Go.Proofs.Ytbnkmdcfillhoaa.Pure
