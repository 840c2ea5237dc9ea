/- Masks in bits: what is joined, what the document lists and gathers. -/
import Derived.Test.YtcigkejiompieaaDoorPx0
import Derived.Test.YtcigkejiompieaaDoorPx3
import Derived.Test.YtcigkejiompieaaDoorQDirty
set_option linter.unusedVariables false
set_option linter.unusedSimpArgs false
namespace Go.Proofs.YtcigkejiompieaaDoor.Dirty
open Go.RowKit Go.Proofs.YtcigkejiompieaaDoor.P Go.Proofs.YtcigkejiompieaaDoorW.PrintWords Go.Proofs.YtcigkejiompieaaDoorW.PrintLast Go.Proofs.YtcigkejiompieaaDoorW.PrintMore

theorem bits_or64 (a b : Nat) (ha : a < 18446744073709551616) (hb : b < 18446744073709551616) : Go.bits .or .u64 (a : Int) (b : Int) = ((a ||| b : Nat) : Int) := by
  have h := Nat.or_lt_two_pow (n := 64) ha hb
  simp only [Go.bits, BitVec.ofInt_natCast, BitVec.toNat_or, BitVec.toNat_ofNat]
  rw [show IntKind.u64.bits = 64 from rfl, Nat.mod_eq_of_lt ha, Nat.mod_eq_of_lt hb]
  rw [IntKind.wrap_u64]
  omega
/-- Masks that are numbers below 2 to 32. -/
def small (m : List S48) : Prop := ∀ b ∈ m, 0 ≤ b.f0 ∧ 0 ≤ b.f1 ∧ b.f1 < 4294967296
/-- Is a block of a volume marked? -/
def hasB (m : List S48) (v n : Nat) : Bool := m.any fun b => decide (b.f0 = (v : Int)) && b.f1.toNat.testBit n
def orN (T : Nat → Nat) (m : List S48) : Nat → Nat := m.foldl (fun T b => fun v => if v = b.f0.toNat then T v ||| b.f1.toNat else T v) T
theorem orN_lt (m : List S48) (hm : small m) : ∀ (T : Nat → Nat), (∀ v, T v < 4294967296) → ∀ v, orN T m v < 4294967296 := by
  induction m with
  | nil => intro T hT v; exact hT v
  | cons b m ih =>
    intro T hT v
    refine ih (fun c hc => hm c (List.mem_cons_of_mem _ hc)) _ (fun u => ?_) v
    show (if u = b.f0.toNat then T u ||| b.f1.toNat else T u) < _
    have := hm b List.mem_cons_self
    split
    · exact Nat.or_lt_two_pow (n := 32) (hT u) (by omega)
    · exact hT u
theorem orAll_nat (m : List S48) (hm : small m) : ∀ (T : Nat → Nat), (∀ v, T v < 4294967296) → orAll (fun v => (T v : Int)) m = fun v => (orN T m v : Int) := by
  induction m with
  | nil => intro T _; rfl
  | cons b m ih =>
    intro T hT
    have hb := hm b List.mem_cons_self
    have h1 : orOne (fun v => (T v : Int)) b = fun v => (((if v = b.f0.toNat then T v ||| b.f1.toNat else T v : Nat)) : Int) := by
      funext v
      unfold orOne upd
      by_cases h : v = b.f0.toNat
      · rw [if_pos h, if_pos h, show b.f1 = ((b.f1.toNat : Nat) : Int) from by omega, bits_or64 _ _ (by have := hT b.f0.toNat; omega) (by omega), h]
        rfl
      · rw [if_neg h, if_neg h]
    show orAll (orOne _ b) m = _
    rw [h1, ih (fun c hc => hm c (List.mem_cons_of_mem _ hc))]
    · rfl
    · intro v
      split
      · exact Nat.or_lt_two_pow (n := 32) (hT v) (by omega)
      · exact hT v
theorem orN_bit (m : List S48) (hm : small m) : ∀ (T : Nat → Nat) (v n : Nat), (orN T m v).testBit n = ((T v).testBit n || hasB m v n) := by
  induction m with
  | nil => intro T v n; simp [orN, hasB]
  | cons b m ih =>
    intro T v n
    have hb := hm b List.mem_cons_self
    show (orN (fun v => if v = b.f0.toNat then T v ||| b.f1.toNat else T v) m v).testBit n = _
    rw [ih (fun c hc => hm c (List.mem_cons_of_mem _ hc))]
    have hv : (v = b.f0.toNat) = (b.f0 = (v : Int)) := by rw [eq_iff_iff]; omega
    simp only [hv, hasB, List.any_cons]
    by_cases h : b.f0 = (v : Int)
    · rw [if_pos h, Nat.testBit_or, decide_eq_true h, Bool.true_and, Bool.or_assoc]
    · rw [if_neg h, decide_eq_false h, Bool.false_and, Bool.false_or]
theorem zeros_nat : zeros = fun v => (((fun _ => 0 : Nat → Nat) v : Nat) : Int) := rfl
/-- Two spread: the numbers, and their bits. -/
theorem spr_two (a b : List S48) (ha : small a) (hb : small b) : ∃ M : Nat → Nat, (∀ v, M v < 4294967296) ∧ sprL [a, b] 2 = (fun v => (M v : Int)) ∧ ∀ v n, (M v).testBit n = (hasB a v n || hasB b v n) := by
  refine ⟨orN (orN (fun _ => 0) a) b, orN_lt b hb _ (orN_lt a ha _ (fun _ => by omega)), ?_, ?_⟩
  · show orAll (orAll zeros a) b = _
    rw [zeros_nat, orAll_nat a ha _ (fun _ => by omega), orAll_nat b hb _ (orN_lt a ha _ (fun _ => by omega))]
  · intro v n
    rw [orN_bit b hb, orN_bit a ha, Nat.zero_testBit, Bool.false_or]
theorem spr_one (a : List S48) (ha : small a) : ∃ M : Nat → Nat, (∀ v, M v < 4294967296) ∧ sprL [a] 1 = (fun v => (M v : Int)) ∧ ∀ v n, (M v).testBit n = hasB a v n := by
  refine ⟨orN (fun _ => 0) a, orN_lt a ha _ (fun _ => by omega), ?_, ?_⟩
  · show orAll zeros a = _
    rw [zeros_nat, orAll_nat a ha _ (fun _ => by omega)]
  · intro v n
    rw [orN_bit a ha, Nat.zero_testBit, Bool.false_or]
/-- The number whose bits below n are those of p. -/
def sumBits (p : Nat → Bool) : Nat → Nat
  | 0 => 0
  | n + 1 => sumBits p n + if p n = true then 2 ^ n else 0
theorem sumBits_lt (p : Nat → Bool) (n : Nat) : sumBits p n < 2 ^ n := by
  induction n with
  | zero => simp [sumBits]
  | succ n ih =>
    unfold sumBits
    rw [Nat.pow_succ]
    split <;> omega
theorem sumBits_bit (p : Nat → Bool) (n i : Nat) : (sumBits p n).testBit i = (decide (i < n) && p i) := by
  induction n with
  | zero => simp [sumBits]
  | succ n ih =>
    have hlt := sumBits_lt p n
    unfold sumBits
    have hlt2 : 2 ^ n + sumBits p n < 2 ^ (n + 1) := by rw [Nat.pow_succ]; omega
    by_cases hp : p n = true
    · rw [if_pos hp, Nat.add_comm]
      by_cases hi : i = n
      · subst hi
        rw [Nat.testBit_two_pow_add_eq, ih]
        simp [hp]
      · by_cases hi2 : i < n
        · rw [Nat.testBit_two_pow_add_gt hi2, ih, decide_eq_true hi2, decide_eq_true (show i < n + 1 by omega)]
        · rw [Nat.testBit_lt_two_pow (Nat.lt_of_lt_of_le hlt2 (Nat.pow_le_pow_right (by omega) (show n + 1 ≤ i by omega))), decide_eq_false (show ¬ i < n + 1 by omega), Bool.false_and]
    · rw [if_neg hp, Nat.add_zero, ih]
      by_cases hi : i = n
      · subst hi; simp [hp]
      · have : decide (i < n + 1) = decide (i < n) := by rw [decide_eq_decide]; omega
        rw [this]
theorem eq_of_bits {x y : Nat} (hx : x < 4294967296) (hy : y < 4294967296) (h : ∀ n, n < 32 → x.testBit n = y.testBit n) : x = y := by
  apply Nat.eq_of_testBit_eq
  intro i
  by_cases hi : i < 32
  · exact h i hi
  · rw [Nat.testBit_lt_two_pow (Nat.lt_of_lt_of_le hx (show 4294967296 ≤ 2 ^ i from Nat.pow_le_pow_right (n := 2) (by omega) (show 32 ≤ i by omega))), Nat.testBit_lt_two_pow (Nat.lt_of_lt_of_le hy (show 4294967296 ≤ 2 ^ i from Nat.pow_le_pow_right (n := 2) (by omega) (show 32 ≤ i by omega)))]
end Go.Proofs.YtcigkejiompieaaDoor.Dirty
