/- Masks: what is right, told once for the program and the document. -/
import Derived.Test.YtcigkejiompieaaDoorPx0
import Derived.Test.YtcigkejiompieaaDoorPx3
import Derived.Test.YtcigkejiompieaaDoorPx4
import Derived.Test.YtcigkejiompieaaDoorPx5
import Derived.Test.YtcigkejiompieaaDoorPx8
set_option linter.unusedVariables false
set_option linter.unusedSimpArgs false
namespace Go.Proofs.YtcigkejiompieaaDoor.Dirty
open Go.RowKit Go.Proofs.YtcigkejiompieaaDoor.P Go.Proofs.YtcigkejiompieaaDoorW.PrintWords Go.Proofs.YtcigkejiompieaaDoorW.PrintLast Go.Proofs.YtcigkejiompieaaDoorW.PrintMore

theorem w64 {n : Int} (h0 : -9223372036854775808 ≤ n) (h1 : n ≤ 9223372036854775807) : wrap64 n = n := by unfold wrap64; omega
theorem rd63 (m : List S48) (i : Nat) (h : i < m.length) : rd_T48 m (i : Int) = m[i] := by
  unfold rd_T48
  rw [Int.toNat_natCast, List.getD_eq_getElem?_getD, List.getElem?_eq_getElem h]
  rfl
/-- Right masks behind the volume 'last'. -/
def rgt : Int → List S48 → Bool
  | _, [] => true
  | last, b :: l => decide (last < b.f0 ∧ b.f0 ≤ 255 ∧ b.f1 ≠ 0 ∧ b.f1 < 4294967296) && rgt b.f0 l
theorem right_l0 (m : List S48) (hm : m.length ≤ 4611686018427387904) (d : Nat) : ∀ (i k : Nat) (last : Int), i + d = m.length → d < k → dirty_Right.l0 k last m (m.length : Int) (i : Int) = some (rgt last (m.drop i)) := by
  induction d with
  | zero =>
    intro i k last hi hk
    obtain ⟨k, rfl⟩ : ∃ j, k = j + 1 := ⟨k - 1, by omega⟩
    rw [dirty_Right.l0, if_neg (by omega), List.drop_eq_nil_of_le (by omega)]
    rfl
  | succ d ih =>
    intro i k last hi hk
    obtain ⟨k, rfl⟩ : ∃ j, k = j + 1 := ⟨k - 1, by omega⟩
    have hl : i < m.length := by omega
    rw [dirty_Right.l0, if_pos (by omega), if_pos (by omega), if_pos (by omega), rd63 m i hl, List.drop_eq_getElem_cons hl, w64 (by omega) (by omega), show (i : Int) + 1 = ((i + 1 : Nat) : Int) from by omega, ih (i + 1) k _ (by omega) (by omega)]
    rw [rgt]
    generalize m[i] = b
    by_cases h1 : b.f0 ≤ last
    · rw [if_pos h1, decide_eq_false (by omega)]; rfl
    · rw [if_neg h1]
      by_cases h2 : b.f0 > 255
      · rw [if_pos h2, decide_eq_false (by omega)]; rfl
      · rw [if_neg h2]
        by_cases h3 : b.f1 = 0
        · rw [if_pos h3, decide_eq_false (fun h => h.2.2.1 h3)]; rfl
        · rw [if_neg h3]
          by_cases h4 : b.f1 ≥ 4294967296
          · rw [if_pos h4, decide_eq_false (by omega)]; rfl
          · rw [if_neg h4, decide_eq_true (by omega), Bool.true_and]
theorem right_eq (m : List S48) (hm : m.length ≤ 4611686018427387904) {k : Nat} (hk : m.length < k) : dirty_Right.f k m = some (rgt 0 m) := by
  have := right_l0 m hm m.length 0 k 0 (by omega) hk
  rw [List.drop_zero] at this
  exact this
theorem power_l0 (n : Nat) (hn : n ≤ 63) (d : Nat) : ∀ (i k : Nat), i + d = n → d < k → counterfoilref10_power.l0 k (n : Int) ((2 ^ i : Nat) : Int) (i : Int) = some ((2 ^ n : Nat) : Int) := by
  induction d with
  | zero =>
    intro i k hi hk
    obtain ⟨k, rfl⟩ : ∃ j, k = j + 1 := ⟨k - 1, by omega⟩
    rw [counterfoilref10_power.l0, if_neg (by omega), show i = n from by omega]
  | succ d ih =>
    intro i k hi hk
    obtain ⟨k, rfl⟩ : ∃ j, k = j + 1 := ⟨k - 1, by omega⟩
    have h2 : (2 : Nat) ^ (i + 1) ≤ 2 ^ 63 := Nat.pow_le_pow_right (by omega) (by omega)
    have e2 : IntKind.u64.wrap (2 * ((2 ^ i : Nat) : Int)) = ((2 ^ (i + 1) : Nat) : Int) := by
      rw [IntKind.wrap_u64]
      have : (2 : Int) * ((2 ^ i : Nat) : Int) = ((2 ^ (i + 1) : Nat) : Int) := by rw [Nat.pow_succ]; omega
      rw [this]
      generalize 2 ^ (i + 1) = x at h2 ⊢
      omega
    rw [counterfoilref10_power.l0, if_pos (by omega), e2, w64 (by omega) (by omega), show (i : Int) + 1 = ((i + 1 : Nat) : Int) from by omega]
    exact ih (i + 1) k (by omega) (by omega)
theorem power_eq (n : Nat) (hn : n ≤ 63) {k : Nat} (hk : 64 ≤ k) : counterfoilref10_power.f k (n : Int) = some ((2 ^ n : Nat) : Int) := power_l0 n hn n 0 k (by omega) (by omega)
/-- The volume in front of place i. -/
def lastOf (m : List S48) (i : Nat) : Int := if i = 0 then 0 else (rd_T48 m ((i - 1 : Nat) : Int)).f0
theorem rright_l0 (m : List S48) (hm : m.length ≤ 4611686018427387904) (d : Nat) : ∀ (i k : Nat), i + d = m.length → d + 64 < k → 0 ≤ lastOf m i → counterfoilref10_Right.l0 k m (i : Int) = some (rgt (lastOf m i) (m.drop i)) := by
  induction d with
  | zero =>
    intro i k hi hk hp
    obtain ⟨k, rfl⟩ : ∃ j, k = j + 1 := ⟨k - 1, by omega⟩
    rw [counterfoilref10_Right.l0, if_neg (by omega), List.drop_eq_nil_of_le (by omega)]
    rfl
  | succ d ih =>
    intro i k hi hk hp
    obtain ⟨k, rfl⟩ : ∃ j, k = j + 1 := ⟨k - 1, by omega⟩
    have hl : i < m.length := by omega
    have hnext : lastOf m (i + 1) = m[i].f0 := by
      unfold lastOf
      rw [if_neg (by omega), show i + 1 - 1 = i from by omega, rd63 m i hl]
    have ih' := ih (i + 1) k (by omega) (by omega)
    rw [hnext] at ih'
    rw [counterfoilref10_Right.l0, if_pos (by omega), if_pos (by omega), rd63 m i hl, List.drop_eq_getElem_cons hl, w64 (show -9223372036854775808 ≤ (i : Int) + 1 by omega) (by omega), show (i : Int) + 1 = ((i + 1 : Nat) : Int) from by omega]
    have hprev : i > 0 → rd_T48 m (wrap64 ((i : Int) - 1)) = rd_T48 m ((i - 1 : Nat) : Int) := by
      intro h
      rw [w64 (by omega) (by omega), show (i : Int) - 1 = ((i - 1 : Nat) : Int) from by omega]
    have hprev2 : i > 0 → lastOf m i = (rd_T48 m ((i - 1 : Nat) : Int)).f0 := fun h => if_neg (by omega)
    have hprev3 : i = 0 → lastOf m i = 0 := fun h => if_pos h
    have hw1 : i > 0 → 0 ≤ wrap64 ((i : Int) - 1) ∧ wrap64 ((i : Int) - 1) < (m.length : Int) := by
      intro h
      rw [w64 (by omega) (by omega)]
      omega
    rw [rgt]
    generalize lastOf m i = last at *
    generalize m[i] = b at *
    by_cases h1 : b.f0 < 1
    · rw [if_pos h1, decide_eq_false (by omega)]; rfl
    · rw [if_neg h1]
      by_cases h2 : b.f0 > 255
      · rw [if_pos h2, decide_eq_false (by omega)]; rfl
      · rw [if_neg h2]
        by_cases h3 : b.f1 = 0
        · rw [if_pos h3, decide_eq_false (fun h => h.2.2.1 h3)]; rfl
        · rw [if_neg h3, show (32 : Int) = ((32 : Nat) : Int) from rfl, power_eq 32 (by omega) (by omega)]
          simp only [Option.bind_some]
          by_cases h4 : b.f1 ≥ ((2 ^ 32 : Nat) : Int)
          · rw [if_pos h4, decide_eq_false (by omega)]; rfl
          · rw [if_neg h4, ih' (by omega)]
            by_cases h5 : (i : Int) > 0
            · have hi0 : i > 0 := by omega
              rw [if_pos h5, if_pos (hw1 hi0).1, if_pos (hw1 hi0).2, hprev hi0, ← hprev2 hi0]
              by_cases h6 : last ≥ b.f0
              · rw [if_pos h6, decide_eq_false (by omega)]; rfl
              · rw [if_neg h6, decide_eq_true (by omega), Bool.true_and]
            · rw [if_neg h5, decide_eq_true (by have := hprev3 (by omega); omega), Bool.true_and]
theorem rright_eq (m : List S48) (hm : m.length ≤ 4611686018427387904) {k : Nat} (hk : m.length + 64 < k) : counterfoilref10_Right.f k m = some (rgt 0 m) := by
  have := rright_l0 m hm m.length 0 k (by omega) hk (by unfold lastOf; simp)
  rw [List.drop_zero] at this
  exact this
theorem awake_eq : counterfoillaw10_awake.f = some true := by decide +kernel
theorem rgt_mem {m : List S48} {last : Int} (h : rgt last m = true) (hl : 0 ≤ last) : ∀ b ∈ m, last < b.f0 ∧ b.f0 ≤ 255 ∧ b.f1 ≠ 0 ∧ b.f1 < 4294967296 := by
  induction m generalizing last with
  | nil => intro b hb; cases hb
  | cons c m ih =>
    rw [rgt, Bool.and_eq_true, decide_eq_true_eq] at h
    intro b hb
    rcases List.mem_cons.1 hb with rfl | hb
    · exact h.1
    · have := ih h.2 (by omega) b hb
      exact ⟨by omega, this.2⟩
theorem rgt_inB {m : List S48} (h : rgt 0 m = true) : inB m := fun b hb => by have := rgt_mem h (by omega) b hb; omega
end Go.Proofs.YtcigkejiompieaaDoor.Dirty
