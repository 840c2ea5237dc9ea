import Derived.Test.YtgfmdfgibkkfaaaKaPx6
import Derived.Test.YtgfmdfgibkkfaaaKaOct
import Derived.Laws.BitsLemmas
set_option linter.unusedVariables false
set_option linter.unusedSimpArgs false
namespace Go.Proofs.Ytgfmdfgibkkfaaa.Oct
open Go.RowKit Go.Proofs.Ytgfmdfgibkkfaaa.P Go.Proofs.Ytgfmdfgibkkfaaa.Core Go.Proofs.YtgfmdfgibkkfaaaW.PrintWords Go.Proofs.YtgfmdfgibkkfaaaW.PrintLast Go.Proofs.YtgfmdfgibkkfaaaW.PrintMore
def takeS (s : ByteArray) : ByteArray × ByteArray × Int :=
  if s.size < 2 then (mk [], mk [], 2) else
    if s.size - 2 < num (s.data.toList.take 2) then (mk [], mk [], 2) else
      (s.extract 2 (2 + num (s.data.toList.take 2)), s.extract (2 + num (s.data.toList.take 2)) s.size, 0)
theorem same_l0 (a b : List ByteArray) (hl : a.length = b.length) (hb : a.length ≤ 140737488351232) (d : Nat) : ∀ (i k : Nat), i + d = a.length → d < k →
    counterfoilref01_Same.l0 k a b (i : Int) = some (decide (a.drop i = b.drop i)) := by
  induction d with
  | zero =>
    intro i k hi hk
    obtain ⟨k, rfl⟩ : ∃ m, k = m + 1 := ⟨k - 1, by omega⟩
    simp only [counterfoilref01_Same.l0]
    rw [if_neg (by omega), List.drop_eq_nil_of_le (by omega), List.drop_eq_nil_of_le (by omega)]
    rfl
  | succ d ih =>
    intro i k hi hk
    obtain ⟨k, rfl⟩ : ∃ m, k = m + 1 := ⟨k - 1, by omega⟩
    simp only [counterfoilref01_Same.l0]
    have e4 : wrap64 ((i : Int) + 1) = ((i + 1 : Nat) : Int) := by rw [wrap64_id (by omega) (by omega)]; omega
    have ga : ∀ (l : List ByteArray) (h : i < l.length), rdOf ByteArray.empty l (i : Int) = l[i] := by
      intro l h
      unfold rdOf
      rw [Int.toNat_natCast, List.getD_eq_getElem?_getD, List.getElem?_eq_getElem h]
      rfl
    rw [if_pos (by omega), if_pos (by omega), if_pos (by omega), ga a (by omega), ga b (by omega), e4]
    rw [List.drop_eq_getElem_cons (show i < a.length by omega), List.drop_eq_getElem_cons (show i < b.length by omega)]
    by_cases he : a[i]'(by omega) = b[i]'(by omega)
    · rw [if_pos (by rw [he]), ih (i + 1) k (by omega) (by omega), he]
      simp only [List.cons.injEq, true_and]
    · rw [if_neg (fun h => he (ba_inj.1 h))]
      simp only [List.cons.injEq, he, false_and, decide_false]
theorem same_eq (a b : List ByteArray) (hb : a.length ≤ 140737488351232) {k : Nat} (hk : a.length < k) : counterfoilref01_Same.f k a b = some (decide (a = b)) := by
  unfold counterfoilref01_Same.f
  by_cases hl : a.length = b.length
  · rw [if_pos (by omega)]
    have := same_l0 a b hl hb a.length 0 k (by omega) hk
    simpa using this
  · rw [if_neg (by omega)]
    simp
    intro h
    exact hl (by rw [h])
end Go.Proofs.Ytgfmdfgibkkfaaa.Oct
