import Derived.Test.YtgfmdfgibkkfaaaKaHSum
set_option linter.unusedVariables false
set_option linter.unusedSimpArgs false
namespace Go.Proofs.Ytgfmdfgibkkfaaa.Crc
open Go.Proofs.Ytgfmdfgibkkfaaa.P
theorem xor_mod2 (a b : Nat) : (a ^^^ b) % 2 = (a % 2 + b % 2) % 2 := by
  have h := Nat.xor_mod_two_pow (a := a) (b := b) (n := 1)
  rw [Nat.pow_one] at h
  rw [h]
  rcases Nat.mod_two_eq_zero_or_one a with ha | ha <;> rcases Nat.mod_two_eq_zero_or_one b with hb | hb <;> rw [ha, hb] <;> rfl
theorem xor_half (a b : Nat) : (a ^^^ b) / 2 = (a / 2) ^^^ (b / 2) := by
  have h := Nat.xor_div_two_pow (a := a) (b := b) (n := 1)
  simpa using h
theorem step_xor (a b : Nat) : crcStep (a ^^^ b) = crcStep a ^^^ crcStep b := by
  unfold crcStep
  rw [xor_mod2, xor_half]
  rcases Nat.mod_two_eq_zero_or_one a with ha | ha <;> rcases Nat.mod_two_eq_zero_or_one b with hb | hb <;> rw [ha, hb] <;> simp
  · rw [Nat.xor_assoc]
  · rw [Nat.xor_assoc, Nat.xor_assoc, Nat.xor_comm (b / 2)]
  · rw [Nat.xor_assoc, Nat.xor_comm 3988292384 (b / 2 ^^^ 3988292384), Nat.xor_assoc, Nat.xor_self, Nat.xor_zero]
theorem xor_inj {a b c : Nat} (h : a ^^^ c = b ^^^ c) : a = b := by
  have : (a ^^^ c) ^^^ c = (b ^^^ c) ^^^ c := by rw [h]
  simpa [Nat.xor_assoc] using this
theorem xor_zero {a b : Nat} (h : a ^^^ b = 0) : a = b := xor_inj (c := b) (by rw [h, Nat.xor_self])
theorem xor_of_eq {a b : Nat} (h : a = b) : a ^^^ b = 0 := by rw [h, Nat.xor_self]
theorem step_eq_zero {a : Nat} (ha : a < 4294967296) (h : crcStep a = 0) : a = 0 := by
  unfold crcStep at h
  by_cases h1 : a % 2 = 1
  · rw [if_pos h1] at h
    have := xor_zero h
    omega
  · rw [if_neg h1] at h
    omega
theorem step_double (a : Nat) : crcStep (2 * a) = a := by
  unfold crcStep
  rw [if_neg (by omega)]
  omega
theorem iter_xor (n a b : Nat) : crcIter n (a ^^^ b) = crcIter n a ^^^ crcIter n b := by
  induction n with
  | zero => rfl
  | succ n ih => rw [crcIter, crcIter, crcIter, ih, step_xor]
theorem iter_eq_zero (n : Nat) {a : Nat} (ha : a < 4294967296) (h : crcIter n a = 0) : a = 0 := by
  induction n with
  | zero => exact h
  | succ n ih => exact ih (step_eq_zero (iter_lt n ha) h)
theorem iter_step (n a : Nat) : crcIter (n + 1) a = crcIter n (crcStep a) := by
  induction n with
  | zero => rfl
  | succ n ih => rw [crcIter, ih]; rfl
theorem iter_shift (n a : Nat) : crcIter n (2 ^ n * a) = a := by
  induction n generalizing a with
  | zero => simp [crcIter]
  | succ n ih =>
    rw [iter_step, Nat.pow_succ, Nat.mul_comm (2 ^ n) 2, Nat.mul_assoc, step_double, ih]
theorem split8 (c : Nat) : c = (256 * (c / 256)) ^^^ (c % 256) := by
  apply Nat.eq_of_testBit_eq
  intro i
  rw [Nat.testBit_xor, show 256 = 2 ^ 8 from rfl, Nat.testBit_two_pow_mul, Nat.testBit_mod_two_pow, Nat.testBit_div_two_pow]
  by_cases h : i < 8
  · simp [h, Nat.not_le.2 h]
  · simp [h, Nat.le_of_not_lt h, Nat.sub_add_cancel (Nat.le_of_not_lt h)]
theorem crcByte_iter (c b : Nat) : crcByte c b = crcIter 8 (c ^^^ b) := by
  have h : c ^^^ b = (2 ^ 8 * (c / 256)) ^^^ (c % 256 ^^^ b) := by
    rw [← Nat.xor_assoc, show 2 ^ 8 = 256 from rfl, ← split8]
  rw [h, iter_xor, iter_shift]
  rfl
theorem xor_lt32 {a b : Nat} (ha : a < 4294967296) (hb : b < 4294967296) : a ^^^ b < 4294967296 := Nat.xor_lt_two_pow (n := 32) ha hb
theorem crcByte_inj {c d b : Nat} (hc : c < 4294967296) (hd : d < 4294967296) (h : crcByte c b = crcByte d b) : c = d := by
  rw [crcByte_iter, crcByte_iter, iter_xor, iter_xor] at h
  have h2 := xor_inj h
  have h3 : crcIter 8 (c ^^^ d) = 0 := by rw [iter_xor, h2, Nat.xor_self]
  exact xor_zero (iter_eq_zero 8 (xor_lt32 hc hd) h3)
theorem crcL_append (c : Nat) (l m : List UInt8) : crcL c (l ++ m) = crcL (crcL c l) m := by simp [crcL, List.foldl_append]
theorem crcL_inj {c d : Nat} (l : List UInt8) (hc : c < 4294967296) (hd : d < 4294967296) (h : crcL c l = crcL d l) : c = d := by
  induction l generalizing c d with
  | nil => exact h
  | cons b l ih => exact crcByte_inj hc hd (ih (crcByte_lt hc b.toNat_lt) (crcByte_lt hd b.toNat_lt) h)
theorem crcByte_diff (c d b y : Nat) : crcByte c b ^^^ crcByte d (b ^^^ y) = crcIter 8 ((c ^^^ d) ^^^ y) := by
  rw [crcByte_iter, crcByte_iter, ← iter_xor]
  congr 1
  apply Nat.eq_of_testBit_eq
  intro i
  simp only [Nat.testBit_xor]
  cases c.testBit i <;> cases d.testBit i <;> cases b.testBit i <;> cases y.testBit i <;> rfl
theorem one_turned {c : Nat} (hc : c < 4294967296) (l : List UInt8) (b y : UInt8) (h : crcL c (b :: l) = crcL c ((b ^^^ y) :: l)) : y = 0 := by
  have n0 := y.toNat_lt
  have m : (b ^^^ y).toNat = b.toNat ^^^ y.toNat := UInt8.toNat_xor b y
  simp only [crcL, List.foldl_cons] at h
  have hh := crcL_inj l (crcByte_lt hc b.toNat_lt) (crcByte_lt hc (UInt8.toNat_lt _)) h
  have h2 := xor_of_eq hh
  rw [m, crcByte_diff, Nat.xor_self, Nat.zero_xor] at h2
  exact UInt8.toNat_inj.1 (iter_eq_zero 8 (by omega) h2)
def crc (c : Nat) (s : ByteArray) : Nat := 4294967295 - crcL (4294967295 - c) s.data.toList
theorem crc_lt (c : Nat) (s : ByteArray) : crc c s < 4294967296 := by unfold crc; omega
theorem on_eq (c : Nat) (s : ByteArray) (hc : c < 4294967296) (hs : s.size ≤ 9223372036854775807) : sum_On.f (c : Int) s = some (crc c s : Int) := by
  unfold sum_On.f crc
  have := crcL_lt (c := 4294967295 - c) s.data.toList (by omega)
  rw [if_pos ⟨by omega, by omega, hs⟩, show (c : Int).toNat = c from by omega]
  congr 1
  omega
theorem crc_inj {c : Nat} {a b : ByteArray} (h : crc c a = crc c b) : crcL (4294967295 - c) a.data.toList = crcL (4294967295 - c) b.data.toList := by
  unfold crc at h
  have h1 := crcL_lt (c := 4294967295 - c) a.data.toList (by omega)
  have h2 := crcL_lt (c := 4294967295 - c) b.data.toList (by omega)
  omega
end Go.Proofs.Ytgfmdfgibkkfaaa.Crc
