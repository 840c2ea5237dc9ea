/- For all numbers, widths and texts, OctetBack answers true: a number that Put writes is read back by Get and by Number, whatever stands behind it. -/
import Derived.Test.YtbnkmdcfillhoaaPx3
import Derived.Test.YtbnkmdcfillhoaaOct
namespace Go.Proofs.Ytbnkmdcfillhoaa.Pure
open Go.RowKit Go.Proofs.Ytbnkmdcfillhoaa.P Go.Proofs.Ytbnkmdcfillhoaa.Core Go.Proofs.Ytbnkmdcfillhoaa.Oct Go.Proofs.YtbnkmdcfillhoaaW.PrintWords Go.Proofs.YtbnkmdcfillhoaaW.PrintLast Go.Proofs.YtbnkmdcfillhoaaW.PrintMore
set_option linter.unusedVariables false
set_option linter.unusedSimpArgs false

theorem OctetBack : counterfoillaw01_OctetBack.Pure := by
  intro n w m hn hw hm
  refine ⟨20, ?_⟩
  unfold counterfoillaw01_OctetBack.f
  rw [put_eq hn hw (by omega), awake_eq (by omega)]
  simp only [Option.bind_some]
  by_cases he : (putS n w).2 = 0
  · rw [if_pos he]
    obtain ⟨h1, h8, h0, hlt, hp⟩ := putS_ok he
    rw [wf_i64] at hn
    obtain ⟨n, rfl⟩ := Int.eq_ofNat_of_zero_le h0
    obtain ⟨w, rfl⟩ := Int.eq_ofNat_of_zero_le (show 0 ≤ w by omega)
    rw [show (n : Int).toNat = n from by omega, show (w : Int).toNat = w from by omega] at hp
    rw [show (w : Int).toNat = w from by omega, ← pow_cast] at hlt
    rw [hp, get_eq _ (by omega), number_eq _ _ (by omega), getS_digs (by omega) (by omega) (by omega) (by omega), numberS_digs (by omega) (by omega) (by omega) (by omega)]
    simp only [Option.bind_some]
    rw [mk_size, digs_length, if_pos (by omega)]
    simp
  · rw [if_neg he, putS_bad he]
    simp [ByteArray.toList_eq, mk_data]

end Go.Proofs.Ytbnkmdcfillhoaa.Pure
