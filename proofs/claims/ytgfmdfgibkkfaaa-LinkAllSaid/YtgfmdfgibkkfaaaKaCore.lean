import Derived.Test.YtgfmdfgibkkfaaaKaWWords
import Derived.Test.YtgfmdfgibkkfaaaKaWMore
import Derived.Laws.BitsLemmas
set_option linter.unusedVariables false
set_option linter.unusedSimpArgs false
namespace Go.Proofs.Ytgfmdfgibkkfaaa.Core
open Go.RowKit Go.Proofs.YtgfmdfgibkkfaaaW.PrintWords Go.Proofs.YtgfmdfgibkkfaaaW.PrintMore
def digs (n : Nat) : Nat → List UInt8
  | 0 => []
  | w + 1 => UInt8.ofNat (n / 256 ^ w) :: digs n w
def num (l : List UInt8) : Nat := l.foldl (fun a b => 256 * a + b.toNat) 0
theorem digs_length (n w : Nat) : (digs n w).length = w := by
  induction w with
  | zero => rfl
  | succ w ih => simp [digs, ih]
theorem digs_get (n w i : Nat) (h : i < w) : (digs n w)[i]? = some (UInt8.ofNat (n / 256 ^ (w - 1 - i))) := by
  induction w generalizing i with
  | zero => omega
  | succ w ih =>
    cases i with
    | zero => simp [digs]
    | succ i =>
      simp only [digs, List.getElem?_cons_succ]
      rw [ih i (by omega)]
      congr 4
      omega
theorem digs_snoc (n w : Nat) : digs n (w + 1) = digs (n / 256) w ++ [UInt8.ofNat n] := by
  induction w with
  | zero => simp [digs]
  | succ w ih =>
    rw [digs, ih, digs]
    simp only [List.cons_append]
    congr 2
    rw [Nat.pow_succ, Nat.mul_comm, Nat.div_div_eq_div_mul]
theorem num_foldl (l : List UInt8) (a : Nat) : l.foldl (fun a b => 256 * a + b.toNat) a = a * 256 ^ l.length + num l := by
  induction l generalizing a with
  | nil => simp [num]
  | cons b l ih =>
    unfold num
    simp only [List.foldl_cons, List.length_cons]
    rw [ih, ih (256 * 0 + b.toNat), Nat.pow_succ]
    rw [Nat.add_mul, Nat.mul_zero, Nat.zero_add, Nat.mul_comm 256 a, Nat.mul_assoc, Nat.mul_comm 256 (256 ^ l.length), Nat.add_assoc]
theorem num_append (l m : List UInt8) : num (l ++ m) = num l * 256 ^ m.length + num m := by
  rw [num, List.foldl_append, num_foldl]
  rfl
theorem num_cons (b : UInt8) (l : List UInt8) : num (b :: l) = b.toNat * 256 ^ l.length + num l := by
  have := num_append [b] l
  simpa [num] using this
theorem num_snoc (l : List UInt8) (b : UInt8) : num (l ++ [b]) = 256 * num l + b.toNat := by
  rw [num_append]
  simp [num]
  omega
theorem num_lt (l : List UInt8) : num l < 256 ^ l.length := by
  induction l with
  | nil => simp [num]
  | cons b l ih =>
    rw [num_cons, List.length_cons, Nat.pow_succ]
    have hb : b.toNat ≤ 255 := by have := b.toNat_lt; omega
    have : b.toNat * 256 ^ l.length ≤ 255 * 256 ^ l.length := Nat.mul_le_mul_right _ hb
    omega
theorem num_digs (n w : Nat) (h : n < 256 ^ w) : num (digs n w) = n := by
  induction w generalizing n with
  | zero => simp at h; subst h; rfl
  | succ w ih =>
    rw [digs_snoc, num_snoc, ih (n / 256) (by rw [Nat.pow_succ] at h; omega)]
    simp
    omega
theorem digs_num (l : List UInt8) : digs (num l) l.length = l := by
  induction l with
  | nil => rfl
  | cons b l ih =>
    have hlt := num_lt l
    have hp : 0 < 256 ^ l.length := Nat.pow_pos (by omega)
    have gen : ∀ (m w : Nat), w ≤ l.length → digs (b.toNat * 256 ^ l.length + m) w = digs m w := by
      intro m w hw
      apply List.ext_getElem?
      intro i
      by_cases hi : i < w
      · rw [digs_get _ _ _ hi, digs_get _ _ _ hi]
        congr 1
        have e : 256 ^ l.length = 256 ^ (w - 1 - i) * (256 * 256 ^ (l.length - 1 - (w - 1 - i))) := by
          rw [← Nat.mul_assoc, ← Nat.pow_succ, ← Nat.pow_add]
          congr 1
          omega
        have : (b.toNat * 256 ^ l.length + m) / 256 ^ (w - 1 - i) = 256 * (b.toNat * 256 ^ (l.length - 1 - (w - 1 - i))) + m / 256 ^ (w - 1 - i) := by
          rw [e, show b.toNat * (256 ^ (w - 1 - i) * (256 * 256 ^ (l.length - 1 - (w - 1 - i)))) = 256 ^ (w - 1 - i) * (256 * (b.toNat * 256 ^ (l.length - 1 - (w - 1 - i)))) by
            rw [Nat.mul_left_comm]; congr 1; rw [Nat.mul_left_comm]]
          rw [Nat.mul_add_div (Nat.pow_pos (by omega))]
        rw [this]
        apply UInt8.toNat_inj.1
        simp
      · rw [List.getElem?_eq_none (by rw [digs_length]; omega), List.getElem?_eq_none (by rw [digs_length]; omega)]
    rw [num_cons, List.length_cons, digs, gen _ _ (Nat.le_refl _), ih]
    congr 1
    rw [Nat.mul_comm, Nat.mul_add_div hp, Nat.div_eq_of_lt hlt]
    simp
def mk (l : List UInt8) : ByteArray := ⟨l.toArray⟩
theorem mk_data (l : List UInt8) : (mk l).data.toList = l := rfl
theorem data_mk (s : ByteArray) : mk s.data.toList = s := rfl
theorem mk_size (l : List UInt8) : (mk l).size = l.length := by simp [mk, ByteArray.size]
theorem ba_ext {a b : ByteArray} (h : a.data.toList = b.data.toList) : a = b := by rw [← data_mk a, ← data_mk b, h]
theorem ba_inj {a b : ByteArray} : a.toList = b.toList ↔ a = b := by
  constructor
  · intro h
    rw [ByteArray.toList_eq, ByteArray.toList_eq] at h
    exact ba_ext h
  · intro h; rw [h]
theorem mk_append (l m : List UInt8) : mk l ++ mk m = mk (l ++ m) := by
  apply ba_ext
  simp [mk]
theorem mk_inj {l m : List UInt8} : mk l = mk m ↔ l = m := ⟨fun h => by rw [← mk_data l, h, mk_data], fun h => by rw [h]⟩
theorem strOfNums_mk (xs : List Int) : strOfNums xs = mk (xs.map fun n => UInt8.ofNat n.toNat) := rfl
theorem empty_mk : (⟨#[]⟩ : ByteArray) = mk [] := rfl
theorem bt_data (s : ByteArray) (i : Nat) (h : i < s.size) : bt s (i : Int) = ((s.data.toList[i]'(by simpa using h)).toNat : Int) := by
  unfold bt
  rw [dif_pos (by simpa using h)]
  simp [ByteArray.getElem_eq_getElem_data]
theorem data_extract_list (s : ByteArray) (i j : Nat) : (s.extract i j).data.toList = (s.data.toList.take j).drop i := by
  rw [ByteArray.data_extract, Array.toList_extract, List.extract_eq_take_drop, List.drop_take]
end Go.Proofs.Ytgfmdfgibkkfaaa.Core
