/- What octet's functions on texts and lists answer, as plain functions. -/
import Derived.Test.YtgfmdfgibkkfaaaPx4
import Derived.Test.YtgfmdfgibkkfaaaOct
import Derived.Laws.BitsLemmas
set_option linter.unusedVariables false
set_option linter.unusedSimpArgs false
namespace Go.Proofs.Ytgfmdfgibkkfaaa.Oct
open Go.RowKit Go.Proofs.Ytgfmdfgibkkfaaa.P Go.Proofs.Ytgfmdfgibkkfaaa.Core Go.Proofs.YtgfmdfgibkkfaaaW.PrintWords Go.Proofs.YtgfmdfgibkkfaaaW.PrintLast Go.Proofs.YtgfmdfgibkkfaaaW.PrintMore

def textS (s : ByteArray) : ByteArray × Int := if 65535 < s.size then (mk [], 5) else (mk (digs s.size 2) ++ s, 0)
def takeS (s : ByteArray) : ByteArray × ByteArray × Int :=
  if s.size < 2 then (mk [], mk [], 2) else
    if s.size - 2 < num (s.data.toList.take 2) then (mk [], mk [], 2) else
      (s.extract 2 (2 + num (s.data.toList.take 2)), s.extract (2 + num (s.data.toList.take 2)) s.size, 0)
theorem num_take_two_lt (s : ByteArray) : num (s.data.toList.take 2) < 65536 := by
  have h1 := num_lt (s.data.toList.take 2)
  have h2 : 256 ^ (s.data.toList.take 2).length ≤ 256 ^ 2 := Nat.pow_le_pow_right (by omega) (by rw [List.length_take]; omega)
  omega
theorem numberS_two (s : ByteArray) (h : 2 ≤ s.size) : numberS s 2 = ((num (s.data.toList.take 2) : Int), s.extract 2 s.size, 0) := by
  have hl := num_take_two_lt s
  have hx : (s.extract 0 2).data.toList = s.data.toList.take 2 := by rw [data_extract_list, List.drop_zero]
  have hz : (s.extract 0 2).size = 2 := by rw [ByteArray.size_extract]; omega
  unfold numberS
  rw [if_neg (by omega), if_neg (by omega), show (2 : Int).toNat = 2 from rfl]
  have hg : getS (s.extract 0 2) = ((num (s.data.toList.take 2) : Int), 0) := by
    unfold getS
    rw [hx, hz, if_neg (by omega), if_neg (by omega)]
  rw [hg, if_pos rfl]
theorem numberS_short (s : ByteArray) (h : s.size < 2) : numberS s 2 = (0, mk [], 2) := by
  unfold numberS
  rw [if_neg (by omega), if_pos (by omega)]
theorem take_two : ∀ (l : List UInt8) (h : 2 ≤ l.length), l.take 2 = [l[0]'(by omega), l[1]'(by omega)]
  | [], h => by simp at h
  | [_], h => by simp at h
  | _ :: _ :: _, _ => by simp
theorem bt_two (s : ByteArray) (h : 2 ≤ s.size) : wrap64 (wrap64 (256 * wrap64 (bt s 0)) + wrap64 (bt s 1)) = (num (s.data.toList.take 2) : Int) := by
  have h0 := bt_data s 0 (by omega)
  have h1 := bt_data s 1 (by omega)
  have hl : s.data.toList.length = s.size := by simp
  have e : s.data.toList.take 2 = [s.data.toList[0]'(by omega), s.data.toList[1]'(by omega)] := take_two _ (by omega)
  have b0 := (s.data.toList[0]'(by omega)).toNat_lt
  have b1 := (s.data.toList[1]'(by omega)).toNat_lt
  rw [show ((0 : Nat) : Int) = 0 from rfl] at h0
  rw [show ((1 : Nat) : Int) = 1 from rfl] at h1
  rw [h0, h1, e]
  simp only [num, List.foldl_cons, List.foldl_nil]
  unfold wrap64
  omega
theorem two_bytes (n : Nat) (h : n ≤ 65535) : strOfNums [wrap64 ((n : Int) / 256) % 256, (n : Int) % 256] = mk (digs n 2) := by
  rw [wrap64_id (by omega) (by omega), strOfNums_mk, mk_inj]
  have e1 : ((n : Int) / 256 % 256).toNat = n / 256 := by omega
  have e2 : ((n : Int) % 256).toNat = n % 256 := by omega
  simp [digs, e1, e2]
  apply UInt8.toNat_inj.1
  simp
theorem takeS_text (s m : ByteArray) (h : s.size ≤ 65535) : takeS (mk (digs s.size 2) ++ s ++ m) = (s, m, 0) := by
  have hz : (mk (digs s.size 2) ++ s ++ m).size = 2 + s.size + m.size := by rw [ByteArray.size_append, ByteArray.size_append, mk_size, digs_length]
  have ht : (mk (digs s.size 2) ++ s ++ m).data.toList.take 2 = digs s.size 2 := by
    simp only [ByteArray.data_append, Array.toList_append, mk_data, List.append_assoc]
    rw [List.take_append_of_le_length (by rw [digs_length]; omega), List.take_of_length_le (by rw [digs_length]; omega)]
  have hn := num_digs s.size 2 (by omega)
  unfold takeS
  rw [ht, hn, hz, if_neg (by omega), if_neg (by omega)]
  have e1 : (mk (digs s.size 2) ++ s ++ m).extract 2 (2 + s.size) = s := by
    apply ba_ext
    rw [data_extract_list]
    simp only [ByteArray.data_append, Array.toList_append, mk_data, List.append_assoc]
    rw [← List.append_assoc, List.take_append_of_le_length (by simp [digs_length]), List.take_of_length_le (by simp [digs_length]), List.drop_left' (digs_length _ _)]
  have e2 : (mk (digs s.size 2) ++ s ++ m).extract (2 + s.size) (2 + s.size + m.size) = m := ByteArray.extract_append_eq_right (by rw [ByteArray.size_append, mk_size, digs_length]) (by rw [ByteArray.size_append, mk_size, digs_length])
  rw [e1, e2]
theorem textS_size (s : ByteArray) (h : s.size ≤ 65535) : textS s = (mk (digs s.size 2) ++ s, 0) := by unfold textS; rw [if_neg (by omega)]
/-! Items -/
def itemsL : Nat → ByteArray → List ByteArray → Option (List ByteArray × ByteArray)
  | 0, s, l => some (l, s)
  | n + 1, s, l => if (takeS s).2.2 = 0 then itemsL n (takeS s).2.1 (l ++ [(takeS s).1]) else none
def itemsS (s : ByteArray) : List ByteArray × ByteArray × Int :=
  if s.size < 2 then ([], mk [], 2) else
    match itemsL (num (s.data.toList.take 2)) (s.extract 2 s.size) [] with
    | some (l, r) => (l, r, 0)
    | none => ([], mk [], 2)
theorem takeS_err (s : ByteArray) : (takeS s).2.2 = 0 ∨ (takeS s).2.2 = 2 := by
  unfold takeS
  split
  · exact .inr rfl
  · split
    · exact .inr rfl
    · exact .inl rfl
theorem takeS_size (s : ByteArray) : (takeS s).2.1.size ≤ s.size := by
  unfold takeS
  split
  · simp [mk_size]
  · split
    · simp [mk_size]
    · simp [ByteArray.size_extract]
theorem same_l0 (a b : List ByteArray) (hl : a.length = b.length) (hb : a.length ≤ 140737488351232) (d : Nat) : ∀ (i k : Nat), i + d = a.length → d < k →
    counterfoilref01_Same.l0 k a b (i : Int) = some (decide (a.drop i = b.drop i)) := by
  induction d with
  | zero =>
    intro i k hi hk
    obtain ⟨k, rfl⟩ : ∃ m, k = m + 1 := ⟨k - 1, by omega⟩
    simp only [counterfoilref01_Same.l0]
    rw [if_neg (by omega), List.drop_eq_nil_of_le (by omega), List.drop_eq_nil_of_le (by omega)]
    rfl
  | succ d ih =>
    intro i k hi hk
    obtain ⟨k, rfl⟩ : ∃ m, k = m + 1 := ⟨k - 1, by omega⟩
    simp only [counterfoilref01_Same.l0]
    have e4 : wrap64 ((i : Int) + 1) = ((i + 1 : Nat) : Int) := by rw [wrap64_id (by omega) (by omega)]; omega
    have ga : ∀ (l : List ByteArray) (h : i < l.length), rdOf ByteArray.empty l (i : Int) = l[i] := by
      intro l h
      unfold rdOf
      rw [Int.toNat_natCast, List.getD_eq_getElem?_getD, List.getElem?_eq_getElem h]
      rfl
    rw [if_pos (by omega), if_pos (by omega), if_pos (by omega), ga a (by omega), ga b (by omega), e4]
    rw [List.drop_eq_getElem_cons (show i < a.length by omega), List.drop_eq_getElem_cons (show i < b.length by omega)]
    by_cases he : a[i]'(by omega) = b[i]'(by omega)
    · rw [if_pos (by rw [he]), ih (i + 1) k (by omega) (by omega), he]
      simp only [List.cons.injEq, true_and]
    · rw [if_neg (fun h => he (ba_inj.1 h))]
      simp only [List.cons.injEq, he, false_and, decide_false]
theorem same_eq (a b : List ByteArray) (hb : a.length ≤ 140737488351232) {k : Nat} (hk : a.length < k) : counterfoilref01_Same.f k a b = some (decide (a = b)) := by
  unfold counterfoilref01_Same.f
  by_cases hl : a.length = b.length
  · rw [if_pos (by omega)]
    have := same_l0 a b hl hb a.length 0 k (by omega) hk
    simpa using this
  · rw [if_neg (by omega)]
    simp
    intro h
    exact hl (by rw [h])
theorem itemsL_length (d : Nat) : ∀ (s : ByteArray) (l r : List ByteArray) (t : ByteArray), itemsL d s l = some (r, t) → r.length = l.length + d := by
  induction d with
  | zero =>
    intro s l r t h
    simp only [itemsL, Option.some.injEq, Prod.mk.injEq] at h
    rw [h.1]; rfl
  | succ d ih =>
    intro s l r t h
    simp only [itemsL] at h
    by_cases he : (takeS s).2.2 = 0
    · rw [if_pos he] at h
      have := ih _ _ _ _ h
      simp at this
      omega
    · rw [if_neg he] at h; simp at h
theorem itemsS_length (s : ByteArray) : (itemsS s).1.length ≤ 65535 := by
  have hl := num_take_two_lt s
  unfold itemsS
  split
  · simp
  · cases h : itemsL (num (s.data.toList.take 2)) (s.extract 2 s.size) [] with
    | none => simp
    | some p =>
      have := itemsL_length _ _ _ _ _ h
      simp at this ⊢
      omega
end Go.Proofs.Ytgfmdfgibkkfaaa.Oct
