/- What seg.Feed and the document's feeding answer. -/
import Derived.Test.YtafhlaehkaledaaPx4
import Derived.Test.YtafhlaehkaledaaPx5
import Derived.Test.YtafhlaehkaledaaSegB
set_option linter.unusedVariables false
set_option linter.unusedSimpArgs false
namespace Go.Proofs.Ytafhlaehkaledaa.Seg
open Go.RowKit Go.Proofs.Ytafhlaehkaledaa.P Go.Proofs.Ytafhlaehkaledaa.Core Go.Proofs.Ytafhlaehkaledaa.Oct Go.Proofs.YtafhlaehkaledaaW.PrintWords Go.Proofs.YtafhlaehkaledaaW.PrintLast Go.Proofs.YtafhlaehkaledaaW.PrintMore

def cat : List ByteArray → ByteArray
  | [] => mk []
  | s :: r => s ++ cat r
theorem cat_size : ∀ l : List ByteArray, (cat l).size = tot l
  | [] => by simp [cat, tot, mk_size]
  | s :: r => by simp only [cat, tot, ByteArray.size_append, cat_size r]
abbrev Fed := Int × List ByteArray × ByteArray × Bool × Int
def ended (of : Int) (l : List ByteArray) (n : Nat) : Fed := if l.length < n then (of, l, mk [], false, 0) else (0, [], cat l, true, 0)
def feedN (of : Int) (l : List ByteArray) (i n : Nat) (part : ByteArray) : Fed :=
  if n ≤ i then (0, [], mk [], false, 3) else
    if i = 0 then ended (n : Int) [part] n else
      if i = l.length ∧ (n : Int) = of then ended of (l ++ [part]) n else (0, [], mk [], false, 8)
def feedS (of : Int) (l : List ByteArray) (p : ByteArray) : Fed :=
  if p.size < 4 then (0, [], mk [], false, 2) else feedN of l (num (p.data.toList.take 2)) (num ((p.extract 2 p.size).data.toList.take 2)) (p.extract 4 p.size)
theorem feed_step0 (x14 : List Int) (x74 : List ByteArray) (c i : Int) (k : Nat) (h1 : i < c) (h2 : 0 ≤ i) (h3 : i < (x74.length : Int)) (h4 : x14.length + (rdOf ByteArray.empty x74 i).size < 150000000000000) :
    seg_Feed.l0 (k + 1) x14 x74 c i = seg_Feed.l0 k (x14 ++ bytesOf (rdOf ByteArray.empty x74 i)) x74 c (wrap64 (i + 1)) := by
  rw [seg_Feed.l0, if_pos h1, if_pos h2, if_pos h3, if_pos h4]
theorem feed_l0 (l : List ByteArray) (hl : l.length ≤ 140737488351232) (d : Nat) : ∀ (i k : Nat) (a : ByteArray), i + d = l.length → d < k → a.size + tot (l.drop i) < 150000000000000 →
    seg_Feed.l0 k (bytesOf a) l (l.length : Int) (i : Int) = some (0, [], a ++ cat (l.drop i), true, 0) := by
  induction d with
  | zero =>
    intro i k a hi hk hz
    obtain ⟨k, rfl⟩ : ∃ m, k = m + 1 := ⟨k - 1, by omega⟩
    rw [seg_Feed.l0, if_neg (by omega), List.drop_eq_nil_of_le (by omega), strOfNums_bytesOf, cat, append_empty]
  | succ d ih =>
    intro i k a hi hk hz
    obtain ⟨k, rfl⟩ : ∃ m, k = m + 1 := ⟨k - 1, by omega⟩
    have e4 : wrap64 ((i : Int) + 1) = ((i + 1 : Nat) : Int) := by rw [wrap64_id (by omega) (by omega)]; omega
    rw [rdOf_drop l i (by omega)] at hz ⊢
    simp only [tot] at hz
    have h4 : (bytesOf a).length + (rdOf ByteArray.empty l (i : Int)).size < 150000000000000 := by rw [bytesOf_length]; omega
    rw [feed_step0 (bytesOf a) l _ _ k (by omega) (by omega) (by omega) h4, e4, ← bytesOf_append, ih (i + 1) k _ (by omega) (by omega) (by rw [ByteArray.size_append]; omega), cat, ByteArray.append_assoc]
theorem feed_end (of : Int) (l : List ByteArray) (n : Nat) (hl : l.length ≤ 140737488351232) (hz : tot l < 150000000000000) {k : Nat} (hk : l.length < k) :
    (if (l.length : Int) < (n : Int) then some (of, l, (⟨#[]⟩ : ByteArray), false, 0) else seg_Feed.l0 k ([] : List Int) l (l.length : Int) 0) = some (ended of l n) := by
  unfold ended
  by_cases h : l.length < n
  · rw [if_pos (by omega), if_pos h]; rfl
  · rw [if_neg (by omega), if_neg h]
    have := feed_l0 l hl l.length 0 k (mk []) (by omega) hk (by rw [mk_size]; simpa using hz)
    rw [empty_append, List.drop_zero] at this
    exact this
theorem clone_eq (l : List ByteArray) (hl : l.length ≤ 8796093022208) : slices_Clone_string_string.f l = some l := by
  unfold slices_Clone_string_string.f; rw [if_pos hl]
theorem feed_body (k : Nat) (of : Int) (l : List ByteArray) (p r1 r2 : ByteArray) (i n : Int) (e1 e2 : Int) (x : Fed) (h1 : octet_Number.f k p 2 = some (i, r1, e1)) (h2 : octet_Number.f k r1 2 = some (n, r2, e2))
    (hbad : e1 ≠ 0 ∨ e2 ≠ 0 → x = (0, [], mk [], false, 2)) (hge : e1 = 0 → e2 = 0 → i ≥ n → x = (0, [], mk [], false, 3))
    (h0 : e1 = 0 → e2 = 0 → ¬ i ≥ n → i = 0 → (if (([r2] : List ByteArray).length : Int) < n then some (n, [r2], (⟨#[]⟩ : ByteArray), false, 0) else seg_Feed.l0 k ([] : List Int) [r2] ((([r2] : List ByteArray).length : Nat) : Int) 0) = some x)
    (hl : l.length < 8796093022208)
    (hmid : e1 = 0 → e2 = 0 → ¬ i ≥ n → i ≠ 0 → i = (l.length : Int) → n = of → (if ((l ++ [r2]).length : Int) < n then some (of, l ++ [r2], (⟨#[]⟩ : ByteArray), false, 0) else seg_Feed.l0 k ([] : List Int) (l ++ [r2]) ((l ++ [r2]).length : Int) 0) = some x)
    (hno : e1 = 0 → e2 = 0 → ¬ i ≥ n → i ≠ 0 → ¬ (i = (l.length : Int) ∧ n = of) → x = (0, [], mk [], false, 8)) : seg_Feed.f k of l p = some x := by
  unfold seg_Feed.f
  rw [h1]
  simp only [Option.bind_some]
  rw [h2]
  simp only [Option.bind_some]
  by_cases c1 : e1 = 0
  · rw [if_pos c1]
    by_cases c2 : e2 = 0
    · rw [if_pos c2]
      by_cases c3 : i ≥ n
      · rw [if_pos c3, hge c1 c2 c3]; rfl
      · rw [if_neg c3]
        by_cases c4 : i = 0
        · rw [if_pos c4, clone_eq [] (by simp)]
          simp only [Option.bind_some, List.nil_append]
          rw [if_pos (by simp)]
          exact h0 c1 c2 c3 c4
        · rw [if_neg c4]
          by_cases c5 : i = (l.length : Int)
          · rw [if_pos c5]
            by_cases c6 : n = of
            · rw [if_pos c6, clone_eq l (by omega)]
              simp only [Option.bind_some]
              rw [if_pos hl]
              exact hmid c1 c2 c3 c4 c5 c6
            · rw [if_neg c6, hno c1 c2 c3 c4 (fun h => c6 h.2)]; rfl
          · rw [if_neg c5, hno c1 c2 c3 c4 (fun h => c5 h.1)]; rfl
    · rw [if_neg c2, hbad (.inr c2)]; rfl
  · rw [if_neg c1, hbad (.inl c1)]; rfl
theorem feed_eq (of : Int) (l : List ByteArray) (p : ByteArray) (hl : l.length ≤ 100000) (hz : tot l + p.size < 150000000000000) {k : Nat} (hk : 200000 ≤ k) : seg_Feed.f k of l p = some (feedS of l p) := by
  have hn1 := number_eq p 2 (k := k) (by omega)
  unfold feedS
  by_cases h2 : p.size < 2
  · rw [numberS_short p h2] at hn1
    have hn2 := number_eq (mk []) 2 (k := k) (by omega)
    rw [numberS_short (mk []) (by rw [mk_size]; decide)] at hn2
    rw [if_pos (by omega)]
    exact feed_body k of l p _ _ _ _ _ _ _ hn1 hn2 (fun _ => rfl) (fun h => absurd h (by decide)) (fun h => absurd h (by decide)) (by omega) (fun h => absurd h (by decide)) (fun h => absurd h (by decide))
  rw [numberS_two p (by omega)] at hn1
  have hn2 := number_eq (p.extract 2 p.size) 2 (k := k) (by omega)
  have hs2 : (p.extract 2 p.size).size = p.size - 2 := by rw [ByteArray.size_extract]; omega
  by_cases h4 : p.size < 4
  · rw [numberS_short _ (by omega)] at hn2
    rw [if_pos h4]
    exact feed_body k of l p _ _ _ _ _ _ _ hn1 hn2 (fun _ => rfl) (fun _ h => absurd h (by decide)) (fun _ h => absurd h (by decide)) (by omega) (fun _ h => absurd h (by decide)) (fun _ h => absurd h (by decide))
  rw [numberS_two _ (by omega)] at hn2
  have hx : (p.extract 2 p.size).extract 2 (p.extract 2 p.size).size = p.extract 4 p.size := by
    rw [ByteArray.extract_extract, hs2, show min (2 + (p.size - 2)) p.size = p.size by omega]
  rw [hx] at hn2
  rw [if_neg h4]
  have hps : (p.extract 4 p.size).size = p.size - 4 := by rw [ByteArray.size_extract]; omega
  unfold feedN
  generalize num (p.data.toList.take 2) = i at *
  generalize num ((p.extract 2 p.size).data.toList.take 2) = n at *
  generalize p.extract 4 p.size = r at *
  refine feed_body k of l p _ _ _ _ _ _ _ hn1 hn2 (fun h => absurd h (by simp)) (fun _ _ h => ?_) (fun _ _ h h5 => ?_) (by omega) (fun _ _ h h5 h6 h7 => ?_) (fun _ _ h h5 h6 => ?_)
  · rw [if_pos (by omega)]
  · rw [if_neg (show ¬ n ≤ i by omega), if_pos (show i = 0 by omega)]
    exact feed_end _ [r] n (by simp) (by simp only [tot]; omega) (by simp; omega)
  · rw [if_neg (show ¬ n ≤ i by omega), if_neg (show ¬ i = 0 by omega), if_pos (show i = l.length ∧ (n : Int) = of from ⟨by omega, h7⟩)]
    exact feed_end _ (l ++ [r]) n (by simp; omega) (by rw [tot_append]; simp only [tot]; omega) (by simp; omega)
  · rw [if_neg (show ¬ n ≤ i by omega), if_neg (show ¬ i = 0 by omega), if_neg (fun h8 => h6 ⟨by omega, h8.2⟩)]
theorem feed_piece (of : Int) (l : List ByteArray) (s : ByteArray) (n c i : Nat) (hi : i < 65536) (hc : c < 65536) : feedS of l (pieceS s n c i) = feedN of l i c (cutAt s n i) := by
  have hz := pieceS_size s n c i
  have h1 : (pieceS s n c i).data.toList.take 2 = digs i 2 := by
    unfold pieceS
    simp only [ByteArray.data_append, Array.toList_append, mk_data, List.append_assoc]
    rw [List.take_append_of_le_length (by rw [digs_length]; omega), List.take_of_length_le (by rw [digs_length]; omega)]
  have h2 : (pieceS s n c i).extract 2 (pieceS s n c i).size = mk (digs c 2) ++ cutAt s n i := by
    rw [hz]
    unfold pieceS
    rw [ByteArray.append_assoc]
    exact ByteArray.extract_append_eq_right (by rw [mk_size, digs_length]) (by rw [ByteArray.size_append, mk_size, mk_size, digs_length, digs_length]; omega)
  have h3 : (mk (digs c 2) ++ cutAt s n i).data.toList.take 2 = digs c 2 := by
    simp only [ByteArray.data_append, Array.toList_append, mk_data]
    rw [List.take_append_of_le_length (by rw [digs_length]; omega), List.take_of_length_le (by rw [digs_length]; omega)]
  unfold feedS
  rw [if_neg (by omega), h1, h2, h3, num_digs i 2 (by omega), num_digs c 2 (by omega), piece_tail]
theorem ended_parts (s : ByteArray) (n c i : Nat) (of : Int) (hof : of = (c : Int)) (hi : i < c) : ended of (partsS s n i ++ [cutAt s n i]) c = if i + 1 < c then ((c : Int), partsS s n (i + 1), mk [], false, 0) else (0, [], cat (partsS s n (i + 1)), true, 0) := by
  unfold ended
  rw [hof, ← partsS_succ, partsS_length]
theorem feed_first (of : Int) (l : List ByteArray) (s : ByteArray) (n c : Nat) (hc : 1 ≤ c) : feedN of l 0 c (cutAt s n 0) = if 1 < c then ((c : Int), partsS s n 1, mk [], false, 0) else (0, [], cat (partsS s n 1), true, 0) := by
  unfold feedN
  rw [if_neg (by omega), if_pos rfl]
  exact ended_parts s n c 0 c rfl (by omega)
theorem feed_next (s : ByteArray) (n c i : Nat) (h0 : i ≠ 0) (hi : i < c) : feedN (c : Int) (partsS s n i) i c (cutAt s n i) = if i + 1 < c then ((c : Int), partsS s n (i + 1), mk [], false, 0) else (0, [], cat (partsS s n (i + 1)), true, 0) := by
  unfold feedN
  rw [if_neg (by omega), if_neg h0, if_pos ⟨by rw [partsS_length], rfl⟩]
  exact ended_parts s n c i c rfl hi
theorem feed_gap (of : Int) (l : List ByteArray) (c i : Nat) (part : ByteArray) (h0 : i ≠ 0) (hi : i < c) (hl : i ≠ l.length) : feedN of l i c part = (0, [], mk [], false, 8) := by
  unfold feedN
  rw [if_neg (by omega), if_neg h0, if_neg (fun h => hl h.1)]
theorem cat_append (a b : List ByteArray) : cat (a ++ b) = cat a ++ cat b := by
  induction a with
  | nil => rw [List.nil_append, cat, empty_append]
  | cons s r ih => simp only [List.cons_append, cat, ih, ByteArray.append_assoc]
theorem cat_parts (s : ByteArray) (n : Nat) (i : Nat) : cat (partsS s n i) = s.extract 0 (min s.size (i * n)) := by
  induction i with
  | zero =>
    simp only [partsS, List.range_zero, List.map_nil, cat, Nat.zero_mul, Nat.min_zero]
    apply ba_ext
    rw [data_extract_list]; rfl
  | succ i ih =>
    rw [partsS_succ, cat_append, ih]
    simp only [cat]
    rw [append_empty]
    have hm : i * n ≤ (i + 1) * n := Nat.mul_le_mul_right _ (by omega)
    unfold cutAt
    by_cases h : i * n ≤ s.size
    · rw [Nat.min_eq_right h]
      exact upto s _ _ (by omega)
    · have e1 : min s.size (i * n) = s.size := by omega
      have e2 : min s.size ((i + 1) * n) = s.size := by omega
      rw [e1, e2]
      apply ba_ext
      rw [ByteArray.data_append, Array.toList_append, data_extract_list, data_extract_list]
      have hl : s.data.toList.length = s.size := by simp
      have hdr : List.drop (i * n) (List.take s.size s.data.toList) = [] := List.drop_eq_nil_of_le (by rw [List.length_take, hl]; omega)
      rw [hdr, List.append_nil]
theorem cat_all (s : ByteArray) (n : Nat) (hn : 1 ≤ n) : cat (partsS s n (cnt s.size n)) = s := by
  rw [cat_parts, Nat.min_eq_left (cnt_end hn), ByteArray.extract_zero_size]
theorem tot_parts (s : ByteArray) (n i : Nat) : tot (partsS s n i) ≤ s.size := by
  rw [← cat_size, cat_parts, ByteArray.size_extract]; omega
theorem ended_bound (of : Int) (l : List ByteArray) (n : Nat) : (ended of l n).2.1.length ≤ l.length ∧ tot (ended of l n).2.1 ≤ tot l := by
  unfold ended
  split
  · exact ⟨Nat.le_refl _, Nat.le_refl _⟩
  · exact ⟨by simp, by simp [tot]⟩
theorem feed_bound (of : Int) (l : List ByteArray) (p : ByteArray) : (feedS of l p).2.1.length ≤ l.length + 1 ∧ tot (feedS of l p).2.1 ≤ tot l + p.size := by
  have hp : (p.extract 4 p.size).size ≤ p.size := by rw [ByteArray.size_extract]; omega
  unfold feedS
  split
  · exact ⟨by simp, by simp [tot]⟩
  · unfold feedN
    split
    · exact ⟨by simp, by simp [tot]⟩
    · split
      · have := ended_bound ((num ((p.extract 2 p.size).data.toList.take 2) : Nat) : Int) [p.extract 4 p.size] (num ((p.extract 2 p.size).data.toList.take 2))
        simp only [List.length_singleton, tot] at this
        exact ⟨by omega, by omega⟩
      · split
        · have := ended_bound of (l ++ [p.extract 4 p.size]) (num ((p.extract 2 p.size).data.toList.take 2))
          rw [List.length_append, List.length_singleton, tot_append] at this
          simp only [tot] at this
          exact ⟨by omega, by omega⟩
        · exact ⟨by simp, by simp [tot]⟩

/-! the document's feeding -/
theorem bt_tail (p : ByteArray) (i : Nat) (h : i + 2 < p.size) : bt (p.extract 2 p.size) (i : Int) = bt p ((i + 2 : Nat) : Int) := by
  have hs : (p.extract 2 p.size).size = p.size - 2 := by rw [ByteArray.size_extract]; omega
  rw [bt_data _ i (by omega), bt_data p (i + 2) h]
  have hd := data_extract_list p 2 p.size
  have hl : p.data.toList.length = p.size := by simp
  congr 2
  simp only [hd, List.getElem_drop, List.getElem_take]
  congr 1
  omega
theorem bt_second (p : ByteArray) (h : 4 ≤ p.size) : wrap64 (wrap64 (256 * wrap64 (bt p 2)) + wrap64 (bt p 3)) = (num ((p.extract 2 p.size).data.toList.take 2) : Int) := by
  have hs : (p.extract 2 p.size).size = p.size - 2 := by rw [ByteArray.size_extract]; omega
  have h0 := bt_tail p 0 (by omega)
  have h1 := bt_tail p 1 (by omega)
  rw [← bt_two (p.extract 2 p.size) (by omega)]
  have h0' : bt (p.extract 2 p.size) 0 = bt p 2 := h0
  have h1' : bt (p.extract 2 p.size) 1 = bt p 3 := h1
  rw [h0', h1']
theorem rf1_step (l : List ByteArray) (a : ByteArray) (i : Int) (k : Nat) (h1 : i < (l.length : Int)) (h2 : 0 ≤ i) (h3 : a.size + (rdOf ByteArray.empty l i).size ≤ 9223372036854775807) :
    counterfoilref14_Feed.l1 (k + 1) l a i = counterfoilref14_Feed.l1 k l (a ++ rdOf ByteArray.empty l i) (wrap64 (i + 1)) := by
  rw [counterfoilref14_Feed.l1, if_pos h1, if_pos h2, if_pos h3]
theorem rf_l1 (l : List ByteArray) (hl : l.length ≤ 140737488351232) (d : Nat) : ∀ (i k : Nat) (a : ByteArray), i + d = l.length → d < k → a.size + tot (l.drop i) < 150000000000000 →
    counterfoilref14_Feed.l1 k l a (i : Int) = some (0, [], a ++ cat (l.drop i), true, 0) := by
  induction d with
  | zero =>
    intro i k a hi hk hz
    obtain ⟨k, rfl⟩ : ∃ m, k = m + 1 := ⟨k - 1, by omega⟩
    rw [counterfoilref14_Feed.l1, if_neg (by omega), List.drop_eq_nil_of_le (by omega), cat, append_empty]
  | succ d ih =>
    intro i k a hi hk hz
    obtain ⟨k, rfl⟩ : ∃ m, k = m + 1 := ⟨k - 1, by omega⟩
    have e4 : wrap64 ((i : Int) + 1) = ((i + 1 : Nat) : Int) := by rw [wrap64_id (by omega) (by omega)]; omega
    rw [rdOf_drop l i (by omega)] at hz ⊢
    simp only [tot] at hz
    rw [rf1_step l a _ k (by omega) (by omega) (by omega), e4, ih (i + 1) k _ (by omega) (by omega) (by rw [ByteArray.size_append]; omega), cat, ByteArray.append_assoc]
theorem rf0_step (l : List ByteArray) (p : ByteArray) (m n i : Int) (x : List ByteArray) (k : Nat) (h1 : i < m) (h2 : 0 ≤ i) (h3 : i < (l.length : Int)) (h4 : x.length < 8796093022208) :
    counterfoilref14_Feed.l0 (k + 1) l p m n x i = counterfoilref14_Feed.l0 k l p m n (x ++ [rdOf ByteArray.empty l i]) (wrap64 (i + 1)) := by
  rw [counterfoilref14_Feed.l0, if_pos h1, if_pos h2, if_pos h3, if_pos h4]
theorem rf0_end (l : List ByteArray) (p : ByteArray) (m i : Int) (n : Nat) (x : List ByteArray) (k : Nat) (h1 : ¬ i < m) (h2 : 4 ≤ (p.size : Int)) (h4 : x.length < 8796093022208) (hz : tot (x ++ [p.extract 4 p.size]) < 150000000000000) (hk : x.length + 1 < k) :
    counterfoilref14_Feed.l0 (k + 1) l p m n x i = some (ended (n : Int) (x ++ [p.extract 4 p.size]) n) := by
  rw [counterfoilref14_Feed.l0, if_neg h1, if_pos h2, if_pos h4]
  simp only [Option.bind_some]
  unfold ended
  generalize hy : x ++ [p.extract 4 p.size] = y at *
  have hyl : y.length = x.length + 1 := by rw [← hy]; simp
  by_cases h : y.length < n
  · rw [if_pos (by omega), if_pos h]; rfl
  · rw [if_neg (by omega), if_neg h]
    have := rf_l1 y (by omega) y.length 0 k (mk []) (by omega) (by omega) (by rw [mk_size]; simpa using hz)
    rw [empty_append, List.drop_zero] at this
    exact this
theorem take_rd (l : List ByteArray) (i : Nat) (h : i < l.length) : l.take i ++ [rdOf ByteArray.empty l (i : Int)] = l.take (i + 1) := by
  have : rdOf ByteArray.empty l (i : Int) = l[i] := by simp [rdOf, h]
  rw [this, List.take_append_getElem]
theorem rf_l0 (l : List ByteArray) (p : ByteArray) (m n : Nat) (hm : m ≤ l.length) (hl : l.length ≤ 100000) (hp : 4 ≤ p.size) (hz : tot l + p.size < 150000000000000) (d : Nat) : ∀ (i k : Nat), i + d = m → 110000 + d < k →
    counterfoilref14_Feed.l0 k l p (m : Int) (n : Int) (l.take i) (i : Int) = some (ended (n : Int) (l.take m ++ [p.extract 4 p.size]) n) := by
  have hps : (p.extract 4 p.size).size ≤ p.size := by rw [ByteArray.size_extract]; omega
  have htk : ∀ j, tot (l.take j) ≤ tot l := by
    intro j
    have := tot_append (l.take j) (l.drop j)
    rw [List.take_append_drop] at this
    omega
  induction d with
  | zero =>
    intro i k hi hk
    obtain ⟨k, rfl⟩ : ∃ m, k = m + 1 := ⟨k - 1, by omega⟩
    obtain rfl : i = m := by omega
    have := htk i
    have hlt : (l.take i).length ≤ i := List.length_take_le _ _
    exact rf0_end l p _ _ n _ k (by omega) (by omega) (by omega) (by rw [tot_append]; simp only [tot]; omega) (by omega)
  | succ d ih =>
    intro i k hi hk
    obtain ⟨k, rfl⟩ : ∃ m, k = m + 1 := ⟨k - 1, by omega⟩
    have e4 : wrap64 ((i : Int) + 1) = ((i + 1 : Nat) : Int) := by rw [wrap64_id (by omega) (by omega)]; omega
    have hlt : (l.take i).length ≤ i := List.length_take_le _ _
    rw [rf0_step l p _ _ _ _ k (by omega) (by omega) (by omega) (by omega), e4, take_rd l i (by omega)]
    exact ih (i + 1) k (by omega) (by omega)
theorem rf_body (k : Nat) (of : Int) (l : List ByteArray) (p : ByteArray) (i n : Int) (x : Fed) (hs : ¬ (p.size : Int) < 4) (hi : wrap64 (wrap64 (256 * wrap64 (bt p 0)) + wrap64 (bt p 1)) = i) (hn : wrap64 (wrap64 (256 * wrap64 (bt p 2)) + wrap64 (bt p 3)) = n)
    (hge : i ≥ n → x = (0, [], mk [], false, 3)) (h0 : ¬ i ≥ n → ¬ i > 0 → counterfoilref14_Feed.j0 k l p i n false = some x) (hmid : ¬ i ≥ n → i > 0 → i = (l.length : Int) → counterfoilref14_Feed.j0 k l p i n (n != of) = some x)
    (hno : ¬ i ≥ n → i > 0 → ¬ i = (l.length : Int) → counterfoilref14_Feed.j0 k l p i n true = some x) : counterfoilref14_Feed.f k of l p = some x := by
  subst hi
  subst hn
  unfold counterfoilref14_Feed.f
  rw [if_neg hs, if_pos (by omega), if_pos (by omega), if_pos (by omega), if_pos (by omega)]
  split
  · rename_i h; rw [hge h]; rfl
  · rename_i h
    split
    · rename_i h2
      split
      · rename_i h3; exact hmid h h2 h3
      · rename_i h3; exact hno h h2 h3
    · rename_i h2; exact h0 h h2
theorem rf_j_true (l : List ByteArray) (p : ByteArray) (i n : Int) (k : Nat) : counterfoilref14_Feed.j0 (k + 1) l p i n true = some (0, [], mk [], false, 8) := by
  rw [counterfoilref14_Feed.j0, if_pos rfl]; rfl
theorem rf_j_false (l : List ByteArray) (p : ByteArray) (i n : Int) (k : Nat) : counterfoilref14_Feed.j0 (k + 1) l p i n false = counterfoilref14_Feed.l0 k l p i n [] 0 := by
  rw [counterfoilref14_Feed.j0, if_neg (by decide)]
theorem rfeed_eq (of : Int) (l : List ByteArray) (p : ByteArray) (hl : l.length ≤ 100000) (hz : tot l + p.size < 150000000000000) (k : Nat) (hk : 300000 ≤ k) : counterfoilref14_Feed.f (k + 1) of l p = some (feedS of l p) := by
  unfold feedS
  by_cases h4 : p.size < 4
  · rw [if_pos h4]
    unfold counterfoilref14_Feed.f
    rw [if_pos (by omega)]; rfl
  rw [if_neg h4]
  have e1 := bt_two p (by omega)
  have e2 := bt_second p (by omega)
  unfold feedN
  generalize num (p.data.toList.take 2) = i at *
  generalize num ((p.extract 2 p.size).data.toList.take 2) = n at *
  have hl0 := fun m (hm : m ≤ l.length) => rf_l0 l p m n hm hl (by omega) hz m 0 k (by omega) (by omega)
  refine rf_body (k + 1) of l p i n _ (by omega) e1 e2 (fun h => ?_) (fun h h2 => ?_) (fun h h2 h3 => ?_) (fun h h2 h3 => ?_)
  · rw [if_pos (show n ≤ i by omega)]
  · rw [if_neg (show ¬ n ≤ i by omega), if_pos (show i = 0 by omega), rf_j_false]
    obtain rfl : i = 0 := by omega
    have := hl0 0 (by omega)
    simpa using this
  · rw [if_neg (show ¬ n ≤ i by omega), if_neg (show ¬ i = 0 by omega)]
    by_cases h5 : (n : Int) = of
    · rw [if_pos (show i = l.length ∧ (n : Int) = of from ⟨by omega, h5⟩), ← h5]
      have hb : ((n : Int) != (n : Int)) = false := by simp
      rw [hb, rf_j_false]
      have := hl0 i (by omega)
      obtain rfl : i = l.length := by omega
      rw [List.take_length] at this
      simpa using this
    · have hb : ((n : Int) != of) = true := bne_iff_ne.2 h5
      rw [if_neg (fun h => h5 h.2), hb, rf_j_true]
  · rw [if_neg (show ¬ n ≤ i by omega), if_neg (show ¬ i = 0 by omega), if_neg (fun h => h3 (by omega)), rf_j_true]
end Go.Proofs.Ytafhlaehkaledaa.Seg
