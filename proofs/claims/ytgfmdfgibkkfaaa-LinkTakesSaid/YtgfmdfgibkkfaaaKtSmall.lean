import Derived.Test.YtgfmdfgibkkfaaaKtPx1
import Derived.Test.YtgfmdfgibkkfaaaKtOct
set_option linter.unusedVariables false
set_option linter.unusedSimpArgs false
namespace Go.Proofs.Ytgfmdfgibkkfaaa.Oct
open Go.RowKit Go.Proofs.Ytgfmdfgibkkfaaa.P Go.Proofs.Ytgfmdfgibkkfaaa.Core Go.Proofs.YtgfmdfgibkkfaaaW.PrintWords Go.Proofs.YtgfmdfgibkkfaaaW.PrintLast Go.Proofs.YtgfmdfgibkkfaaaW.PrintMore
theorem strOfNums_bytesOf (s : ByteArray) : strOfNums (bytesOf s) = s := by
  apply ba_ext
  rw [strOfNums_mk, mk_data, bytesOf, List.map_map]
  conv => rhs; rw [← List.map_id s.data.toList]
  apply List.map_congr_left
  intro b _
  simp
theorem bytesOf_append (a b : ByteArray) : bytesOf (a ++ b) = bytesOf a ++ bytesOf b := by simp [bytesOf]
def tot : List ByteArray → Nat
  | [] => 0
  | s :: r => s.size + tot r
theorem rdOf_drop (l : List ByteArray) (i : Nat) (h : i < l.length) : l.drop i = rdOf ByteArray.empty l (i : Int) :: l.drop (i + 1) := by
  have : rdOf ByteArray.empty l (i : Int) = l[i] := by simp [rdOf, h]
  rw [this, List.drop_eq_getElem_cons h]
theorem rdOf_mem (l : List ByteArray) (i : Nat) (h : i < l.length) : rdOf ByteArray.empty l (i : Int) ∈ l := by
  have : rdOf ByteArray.empty l (i : Int) = l[i] := by simp [rdOf, h]
  rw [this]; exact List.getElem_mem h
theorem small_l0 (l : List ByteArray) (b : Nat) (hb : b ≤ 140737488351232) (hs : ∀ s ∈ l, s.size ≤ 140737488351232) (hl : l.length ≤ 140737488351232) (d : Nat) : ∀ (i k a : Nat), i + d = l.length → d < k → a ≤ b →
    counterfoilref01_Small.l0 k l (b : Int) (a : Int) (i : Int) = some (decide (a + tot (l.drop i) ≤ b)) := by
  induction d with
  | zero =>
    intro i k a hi hk ha
    obtain ⟨k, rfl⟩ : ∃ m, k = m + 1 := ⟨k - 1, by omega⟩
    simp only [counterfoilref01_Small.l0]
    rw [if_neg (by omega), List.drop_eq_nil_of_le (by omega)]
    simp [tot, ha]
  | succ d ih =>
    intro i k a hi hk ha
    obtain ⟨k, rfl⟩ : ∃ m, k = m + 1 := ⟨k - 1, by omega⟩
    simp only [counterfoilref01_Small.l0]
    have hm := hs _ (rdOf_mem l i (by omega))
    rw [rdOf_drop l i (by omega)]
    generalize rdOf ByteArray.empty l (i : Int) = s at hm ⊢
    have e1 : wrap64 ((a : Int) + (s.size : Int)) = ((a + s.size : Nat) : Int) := by rw [wrap64_id (by omega) (by omega)]; omega
    have e4 : wrap64 ((i : Int) + 1) = ((i + 1 : Nat) : Int) := by rw [wrap64_id (by omega) (by omega)]; omega
    rw [e1, e4, if_pos (by omega), if_pos (by omega)]
    simp only [tot]
    by_cases h1 : (s.size : Int) > (b : Int)
    · rw [if_pos h1]; exact congrArg some (decide_eq_false (by omega)).symm
    · rw [if_neg h1]
      by_cases h2 : ((a + s.size : Nat) : Int) > (b : Int)
      · rw [if_pos h2]; exact congrArg some (decide_eq_false (by omega)).symm
      · rw [if_neg h2, ih (i + 1) k (a + s.size) (by omega) (by omega) (by omega)]; exact congrArg some (decide_eq_decide.2 (by omega))
theorem small_eq (l : List ByteArray) (m b : Nat) (hb : b ≤ 140737488351232) (hs : ∀ s ∈ l, s.size ≤ 140737488351232) (hl : l.length ≤ 140737488351232) {k : Nat} (hk : m < k) :
    counterfoilref01_Small.f k l (m : Int) (b : Int) = some (decide (l.length ≤ m ∧ tot l ≤ b)) := by
  unfold counterfoilref01_Small.f
  by_cases h : (l.length : Int) > (m : Int)
  · rw [if_pos h]; exact congrArg some (decide_eq_false (by omega)).symm
  · rw [if_neg h]
    have := small_l0 l b hb hs hl l.length 0 k 0 (by omega) (by omega) (by omega)
    rw [show ((0 : Nat) : Int) = 0 from rfl] at this
    rw [this]
    simp only [List.drop_zero, Nat.zero_add]
    congr 1
    apply decide_eq_decide.2
    omega
theorem empty_append (a : ByteArray) : mk [] ++ a = a := by apply ba_ext; simp [mk]
end Go.Proofs.Ytgfmdfgibkkfaaa.Oct
