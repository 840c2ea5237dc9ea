/- For all numbers a, b and widths, OctetOrder answers true: numbers of one width stand in the order of their bytes. -/
import Derived.Test.YtbnkmdcfillhoaaPx2
import Derived.Test.YtbnkmdcfillhoaaOct
namespace Go.Proofs.Ytbnkmdcfillhoaa.Pure
open Go.RowKit Go.Proofs.Ytbnkmdcfillhoaa.P Go.Proofs.Ytbnkmdcfillhoaa.Core Go.Proofs.Ytbnkmdcfillhoaa.Oct Go.Proofs.YtbnkmdcfillhoaaW.PrintWords Go.Proofs.YtbnkmdcfillhoaaW.PrintLast Go.Proofs.YtbnkmdcfillhoaaW.PrintMore
set_option linter.unusedVariables false
set_option linter.unusedSimpArgs false

theorem less_num : ∀ x y : List UInt8, x.length = y.length → Op.bytesLess x y = decide (num x < num y)
  | [], [], _ => by simp [Op.bytesLess, num]
  | a :: x, b :: y, h => by
    have hl : x.length = y.length := by simpa using h
    have ih := less_num x y hl
    have h1 := num_lt x
    have h2 := num_lt y
    rw [hl] at h1
    rw [Op.bytesLess, ih, num_cons, num_cons, hl]
    have hp : 0 < 256 ^ y.length := Nat.pow_pos (by omega)
    generalize 256 ^ y.length = p at *
    rw [Bool.eq_iff_iff]
    simp only [Bool.or_eq_true, Bool.and_eq_true, decide_eq_true_eq, beq_iff_eq, UInt8.lt_iff_toNat_lt]
    constructor
    · rintro (h | ⟨rfl, h⟩)
      · have : (a.toNat + 1) * p ≤ b.toNat * p := Nat.mul_le_mul_right _ h
        rw [Nat.add_mul] at this
        omega
      · omega
    · intro h
      rcases Nat.lt_trichotomy a.toNat b.toNat with hab | hab | hab
      · exact .inl hab
      · refine .inr ⟨UInt8.toNat_inj.1 hab, ?_⟩
        rw [hab] at h
        omega
      · exfalso
        have : (b.toNat + 1) * p ≤ a.toNat * p := Nat.mul_le_mul_right _ hab
        rw [Nat.add_mul] at this
        omega
theorem OctetOrder : counterfoillaw01_OctetOrder.Pure := by
  intro a b w ha hb hw
  refine ⟨20, ?_⟩
  unfold counterfoillaw01_OctetOrder.f
  rw [put_eq ha hw (by omega), put_eq hb hw (by omega)]
  simp only [Option.bind_some]
  have yes : ∀ s t, counterfoillaw01_OctetOrder.j0 20 a b s t true = some true := by
    intro s t
    simp only [counterfoillaw01_OctetOrder.j0]
    rw [if_pos trivial, awake_eq (by omega)]
    rfl
  by_cases he : (putS a w).2 = 0
  · rw [if_pos he]
    by_cases hf : (putS b w).2 = 0
    · obtain ⟨h1, h8, h0, hlt, hp⟩ := putS_ok he
      obtain ⟨_, _, k0, klt, kp⟩ := putS_ok hf
      obtain ⟨a, rfl⟩ := Int.eq_ofNat_of_zero_le h0
      obtain ⟨b, rfl⟩ := Int.eq_ofNat_of_zero_le k0
      obtain ⟨w, rfl⟩ := Int.eq_ofNat_of_zero_le (show 0 ≤ w by omega)
      rw [show (a : Int).toNat = a from by omega, show (w : Int).toNat = w from by omega] at hp
      rw [show (b : Int).toNat = b from by omega, show (w : Int).toNat = w from by omega] at kp
      rw [show (w : Int).toNat = w from by omega, ← pow_cast] at hlt klt
      have na := num_digs a w (by omega)
      have nb := num_digs b w (by omega)
      rw [hf, show ((0 : Int) != 0) = false from rfl, hp, kp]
      simp only [counterfoillaw01_OctetOrder.j0]
      rw [if_neg (by simp), ByteArray.toList_eq, ByteArray.toList_eq, mk_data, mk_data, less_num _ _ (by rw [digs_length, digs_length]), na, nb, awake_eq (by omega)]
      have e1 : (decide ((a : Int) < b) == decide (a < b)) = true := by simp
      have e2 : (((a : Int) == b) == (digs a w == digs b w)) = true := by
        rw [beq_iff_eq, Bool.eq_iff_iff]
        simp only [beq_iff_eq]
        constructor
        · intro h; rw [Int.ofNat_inj.1 h]
        · intro h; rw [← na, ← nb, h]
      rw [if_pos e1, if_pos e2]
      rfl
    · rw [show ((putS b w).2 != 0) = true from by rw [bne_iff_ne]; exact hf, yes]
  · rw [if_neg he, yes]

end Go.Proofs.Ytbnkmdcfillhoaa.Pure
