import Derived.Test.YtecfndblgefhdaaKcLinkC
import Derived.Test.YtecfndblgefhdaaKcSpeak
set_option linter.unusedVariables false
set_option linter.unusedSimpArgs false
namespace Go.Proofs.Ytecfndblgefhdaa.Seg
open Go.RowKit Go.Proofs.Ytecfndblgefhdaa.P Go.Proofs.Ytecfndblgefhdaa.Core Go.Proofs.Ytecfndblgefhdaa.Oct Go.Proofs.YtecfndblgefhdaaW.PrintWords Go.Proofs.YtecfndblgefhdaaW.PrintLast Go.Proofs.YtecfndblgefhdaaW.PrintMore
def cnt (z n : Nat) : Nat := max 1 ((z + n - 1) / n)
theorem cnt_pos (z n : Nat) : 1 ≤ cnt z n := by unfold cnt; omega
theorem cnt_le (z n : Nat) (hn : 1 ≤ n) : cnt z n ≤ z + 1 := by
 unfold cnt
 have h1 : (z + n - 1) / n ≤ z + 1 := by
  have h2 : (z + n - 1) / n < z + 2 := by
   rw [Nat.div_lt_iff_lt_mul z2_]
   have h3 : (z + 2) * n = z * n + 2 * n := by rw [Nat.add_mul]
   have h4 : z * 1 ≤ z * n := Nat.mul_le_mul_left z hn
   omega
  omega
 omega
theorem cnt_lt_iff {z n i : Nat} (hn : 1 ≤ n) : i + 1 < cnt z n ↔ (i + 1) * n < z := by
 have h1 : i + 2 ≤ (z + n - 1) / n ↔ (i + 2) * n ≤ z + n - 1 := Nat.le_div_iff_mul_le z2_
 have h2 : (i + 2) * n = (i + 1) * n + n := by rw [show i + 2 = (i + 1) + 1 from rfl, Nat.succ_mul]
 unfold cnt
 rw [h2] at h1
 generalize (i + 1) * n = p at h1 ⊢
 generalize (z + n - 1) / n = q at h1 ⊢
 omega
theorem cnt_at {z n i : Nat} (hn : 1 ≤ n) (h : i < cnt z n) : i * n ≤ z := by
 cases i with
 | zero => simp
 | succ i => exact Nat.le_of_lt ((cnt_lt_iff hn).1 h)
theorem cnt_end {z n : Nat} (hn : 1 ≤ n) : z ≤ cnt z n * n := by
 have h := cnt_pos z n
 obtain ⟨m, hm⟩ : ∃ m, cnt z n = m + 1 := ⟨cnt z n - 1, z2_⟩
 have := (cnt_lt_iff (z := z) (n := n) (i := m) hn)
 rw [hm]
 by_cases hh : (m + 1) * n < z
 ·have := this.2 hh; omega
 ·omega
def cutAt (s : ByteArray) (n i : Nat) : ByteArray := s.extract (i * n) (min s.size ((i + 1) * n))
theorem cutAt_size (s : ByteArray) (n i : Nat) : (cutAt s n i).size = min s.size ((i + 1) * n) - i * n := by
 unfold cutAt; rw [ByteArray.size_extract]; omega
def pieceS (s : ByteArray) (n c i : Nat) : ByteArray := mk (digs i 2) ++ mk (digs c 2) ++ cutAt s n i
theorem pieceS_def (s : ByteArray) (n c i : Nat) : pieceS s n c i = mk (digs i 2) ++ mk (digs c 2) ++ s.extract (i * n) (min s.size ((i + 1) * n)) := rfl
theorem pieceS_size (s : ByteArray) (n c i : Nat) : (pieceS s n c i).size = 4 + (cutAt s n i).size := by
 unfold pieceS; rw [ByteArray.size_append, ByteArray.size_append, mk_size, mk_size, digs_length, digs_length]
def piecesS (s : ByteArray) (n c i : Nat) : List ByteArray := (List.range i).map (pieceS s n c)
theorem piecesS_length (s : ByteArray) (n c i : Nat) : (piecesS s n c i).length = i := by simp [piecesS]
theorem piecesS_succ (s : ByteArray) (n c i : Nat) : piecesS s n c (i + 1) = piecesS s n c i ++ [pieceS s n c i] := by simp [piecesS, List.range_succ]
def cutS (s : ByteArray) (n : Int) : List ByteArray × Int :=
 if n < 1 ∨ 508 < n then ([], 1) else if 65535 < cnt s.size n.toNat then ([], 5) else (piecesS s n.toNat (cnt s.size n.toNat) (cnt s.size n.toNat), 0)
theorem mx_cnt (z n : Nat) (hz : z ≤ 140737488351232) (h1 : 1 ≤ n) (h2 : n ≤ 508) : mx 1 (wrap64 (Int.tdiv (wrap64 ((wrap64 ((z : Int) + (n : Int))) - 1)) (n : Int))) = ((cnt z n : Nat) : Int) := by
 have e1 : wrap64 ((z : Int) + (n : Int)) = ((z + n : Nat) : Int) := by rw [wrap64_id z2_ z2_]; omega
 have e2 : wrap64 (((z + n : Nat) : Int) - 1) = ((z + n - 1 : Nat) : Int) := by rw [wrap64_id z2_ z2_]; omega
 have e3 : Int.tdiv ((z + n - 1 : Nat) : Int) (n : Int) = (((z + n - 1) / n : Nat) : Int) := by
  rw [Int.tdiv_eq_ediv_of_nonneg z2_]; exact (Int.natCast_ediv _ _).symm
 have h3 : (z + n - 1) / n ≤ z + n - 1 := Nat.div_le_self _ _
 rw [e1, e2, e3]
 unfold cnt
 generalize (z + n - 1) / n = q at h3 ⊢
 rw [wrap64_id z2_ z2_]
 unfold mx
 split <;> omega
theorem put_two (i : Nat) (h : i ≤ 65535) {k : Nat} (hk : 12 ≤ k) : octet_Put.f k (i : Int) 2 = some (mk (digs i 2), 0) := by
 rw [put_eq (by rw [wf_i64]; omega) z17_ hk]
 have := putS_of (n := i) (w := 2) z2_ z2_ z2_
 rw [show ((2 : Nat) : Int) = 2 from rfl] at this
 rw [this]
theorem cut_args (z n i : Nat) (hi : i < 65535) (hn : n ≤ 508) : wrap64 ((i : Int) * (n : Int)) = ((i * n : Nat) : Int) ∧ wrap64 ((i : Int) + 1) = ((i + 1 : Nat) : Int) ∧ wrap64 (((i + 1 : Nat) : Int) * (n : Int)) = (((i + 1) * n : Nat) : Int) ∧
  mn (z : Int) (((i + 1) * n : Nat) : Int) = ((min z ((i + 1) * n) : Nat) : Int) := by
 have hp : i * n ≤ 33291780 := Nat.le_trans (Nat.mul_le_mul (show i ≤ 65535 from z2_) hn) z17_
 have hp2 : (i + 1) * n ≤ 33291780 := Nat.le_trans (Nat.mul_le_mul (show i + 1 ≤ 65535 from z2_) hn) z17_
 rw [← Int.natCast_mul, ← Int.natCast_mul]
 generalize (i + 1) * n = p at *
 generalize i * n = q at *
 refine ⟨wrap64_id z2_ z2_, ?_, wrap64_id z2_ z2_, ?_⟩
 ·rw [wrap64_id z2_ z2_]; omega
 ·unfold mn
  split <;> omega
theorem cut_step0 (s x7 : ByteArray) (n i c : Int) (L : List ByteArray) (k : Nat) (t1 : ByteArray) (t2 : Int) (hlt : i < c) (hput : octet_Put.f k i 2 = some (t1, t2)) (q p m i2 : Int) (e4 : wrap64 (i + 1) = i2) (e1 : wrap64 (i * n) = q) (e2 : wrap64 (i2 * n) = p) (e3 : mn (s.size : Int) p = m)
  (h9 : t1.size + x7.size ≤ 9223372036854775807) (h6 : 0 ≤ q) (h7 : q ≤ m) (h8 : m ≤ (s.size : Int)) (h10 : (t1 ++ x7).size + (s.extract q.toNat m.toNat).size ≤ 9223372036854775807) (h11 : L.length < 8796093022208) :
  seg_Cut.l0 (k + 1) s n x7 L c i = seg_Cut.l0 k s n x7 (L ++ [(t1 ++ x7) ++ s.extract q.toNat m.toNat]) c i2 := by
 subst e3
 subst e2
 subst e1
 subst e4
 rw [seg_Cut.l0, if_pos hlt, hput]
 simp only [Option.bind_some]
 rw [if_pos h9, if_pos h6, if_pos h7, if_pos h8, if_pos h10, if_pos h11]
theorem cut_step (s : ByteArray) (n c i : Nat) (hz : s.size ≤ 140737488351232) (hn1 : 1 ≤ n) (hn : n ≤ 508) (hc : c ≤ 65535) (hi : i < c) (ha : i * n ≤ s.size) (L : List ByteArray) (hL : L.length = i) (k : Nat) (hk : 12 ≤ k) :
  seg_Cut.l0 (k + 1) s n (mk (digs c 2)) L (c : Int) (i : Int) = seg_Cut.l0 k s n (mk (digs c 2)) (L ++ [pieceS s n c i]) (c : Int) ((i + 1 : Nat) : Int) := by
 have hi2 : i ≤ 65535 := by omega
 have hs : (cutAt s n i).size ≤ s.size := by rw [cutAt_size]; omega
 have h5 : i * n ≤ (i + 1) * n := Nat.mul_le_mul_right _ z2_
 have h7 : ((i * n : Nat) : Int) ≤ ((min s.size ((i + 1) * n) : Nat) : Int) := by omega
 have h8 : ((min s.size ((i + 1) * n) : Nat) : Int) ≤ (s.size : Int) := by omega
 have h11 : (i : Int) < (c : Int) := by omega
 have h12 : L.length < 8796093022208 := by omega
 obtain ⟨e1, e4, e2, e3⟩ := cut_args s.size n i z2_ hn
 have h9 : (mk (digs i 2)).size + (mk (digs c 2)).size ≤ 9223372036854775807 := by rw [mk_size, mk_size, digs_length, digs_length]; omega
 have h10 : (mk (digs i 2) ++ mk (digs c 2)).size + (s.extract (((i * n : Nat) : Int)).toNat (((min s.size ((i + 1) * n) : Nat) : Int)).toNat).size ≤ 9223372036854775807 := by
  have : (s.extract (i * n) (min s.size ((i + 1) * n))).size ≤ s.size := hs
  rw [ByteArray.size_append, mk_size, mk_size, digs_length, digs_length, Int.toNat_natCast, Int.toNat_natCast]
  omega
 have h := cut_step0 s (mk (digs c 2)) n i c L k (mk (digs i 2)) 0 h11 (put_two i hi2 hk) ((i * n : Nat) : Int) (((i + 1) * n : Nat) : Int) ((min s.size ((i + 1) * n) : Nat) : Int) ((i + 1 : Nat) : Int) e4 e1 e2 e3 h9 (Int.natCast_nonneg _) h7 h8 h10 h12
 rw [Int.toNat_natCast, Int.toNat_natCast] at h
 rw [pieceS_def]
 exact h
theorem cut_l0 (s : ByteArray) (n c : Nat) (hz : s.size ≤ 140737488351232) (hn1 : 1 ≤ n) (hn : n ≤ 508) (hc : c ≤ 65535) (hcc : c = cnt s.size n) (d : Nat) : ∀ (i k : Nat), i + d = c → 20 + d < k →
  seg_Cut.l0 k s n (mk (digs c 2)) (piecesS s n c i) (c : Int) (i : Int) = some (piecesS s n c c, 0) := by
 induction d with
 | zero =>
  intro i k hi hk
  obtain ⟨k, rfl⟩ : ∃ m, k = m + 1 := ⟨k - 1, z2_⟩
  rw [seg_Cut.l0, if_neg z2_, show i = c from z2_]
 | succ d ih =>
  intro i k hi hk
  obtain ⟨k, rfl⟩ : ∃ m, k = m + 1 := ⟨k - 1, z2_⟩
  rw [cut_step s n c i hz hn1 hn hc z2_ (cnt_at hn1 z2_) _ (piecesS_length _ _ _ _) k z2_, ← piecesS_succ]
  exact ih (i + 1) k z2_ z2_
theorem cut_eq (s : ByteArray) (n : Int) (hz : s.size ≤ 140737488351232) {k : Nat} (hk : 70000 ≤ k) : seg_Cut.f k s n = some (cutS s n) := by
 obtain ⟨k, rfl⟩ : ∃ m, k = m + 1 := ⟨k - 1, z2_⟩
 unfold seg_Cut.f cutS
 by_cases h1 : n < 1
 ·rw [if_pos h1, seg_Cut.j0, if_pos rfl, if_pos (Or.inl h1)]
 ·rw [if_neg h1, seg_Cut.j0]
  by_cases h2 : n > 508
  ·rw [decide_eq_true h2, if_pos rfl, if_pos (Or.inr h2)]
  ·obtain ⟨n, rfl⟩ := Int.eq_ofNat_of_zero_le (a := n) z2_
   rw [decide_eq_false h2, if_neg z17_, if_neg (show ¬ ((n : Int) = 0) from z2_), if_neg (show ¬ ((n : Int) < 1 ∨ 508 < (n : Int)) from z2_), mx_cnt s.size n hz z2_ z2_]
   simp only [Int.toNat_natCast]
   by_cases h3 : 65535 < cnt s.size n
   ·rw [if_pos z2_, if_pos h3]
   ·rw [if_neg z2_, if_neg h3, put_two _ z2_ z2_]
    simp only [Option.bind_some]
    rw [if_pos z2_, if_pos z2_]
    exact cut_l0 s n _ hz z2_ z2_ z2_ rfl (cnt s.size n) 0 k z2_ z2_
def partsS (s : ByteArray) (n i : Nat) : List ByteArray := (List.range i).map (cutAt s n)
theorem partsS_length (s : ByteArray) (n i : Nat) : (partsS s n i).length = i := by simp [partsS]
theorem partsS_succ (s : ByteArray) (n i : Nat) : partsS s n (i + 1) = partsS s n i ++ [cutAt s n i] := by simp [partsS, List.range_succ]
theorem upto (s : ByteArray) (a b : Nat) (h : a ≤ b) : s.extract 0 a ++ s.extract a b = s.extract 0 b := by
 apply ba_ext
 rw [ByteArray.data_append, Array.toList_append, data_extract_list, data_extract_list, data_extract_list, List.drop_zero, List.drop_zero]
 have : (s.data.toList.take b).take a = s.data.toList.take a := by rw [List.take_take, Nat.min_eq_left h]
 rw [← this, List.take_append_drop]
theorem piece_tail (s : ByteArray) (n c i : Nat) : (pieceS s n c i).extract 4 (pieceS s n c i).size = cutAt s n i := by
 have hz := pieceS_size s n c i
 rw [hz]
 unfold pieceS
 exact ByteArray.extract_append_eq_right z181_ z181_
def cat : List ByteArray → ByteArray
 | [] => mk []
 | s :: r => s ++ cat r
abbrev Fed := Int × List ByteArray × ByteArray × Bool × Int
def ended (of : Int) (l : List ByteArray) (n : Nat) : Fed := if l.length < n then (of, l, mk [], false, 0) else (0, [], cat l, true, 0)
def feedN (of : Int) (l : List ByteArray) (i n : Nat) (part : ByteArray) : Fed :=
 if n ≤ i then (0, [], mk [], false, 3) else
  if i = 0 then ended (n : Int) [part] n else
   if i = l.length ∧ (n : Int) = of then ended of (l ++ [part]) n else (0, [], mk [], false, 8)
def feedS (of : Int) (l : List ByteArray) (p : ByteArray) : Fed :=
 if p.size < 4 then (0, [], mk [], false, 2) else feedN of l (num (p.data.toList.take 2)) (num ((p.extract 2 p.size).data.toList.take 2)) (p.extract 4 p.size)
theorem feed_step0 (x14 : List Int) (x74 : List ByteArray) (c i : Int) (k : Nat) (h1 : i < c) (h2 : 0 ≤ i) (h3 : i < (x74.length : Int)) (h4 : x14.length + (rdOf ByteArray.empty x74 i).size < 150000000000000) :
  seg_Feed.l0 (k + 1) x14 x74 c i = seg_Feed.l0 k (x14 ++ bytesOf (rdOf ByteArray.empty x74 i)) x74 c (wrap64 (i + 1)) := by
 rw [seg_Feed.l0, if_pos h1, if_pos h2, if_pos h3, if_pos h4]
theorem feed_l0 (l : List ByteArray) (hl : l.length ≤ 140737488351232) (d : Nat) : ∀ (i k : Nat) (a : ByteArray), i + d = l.length → d < k → a.size + tot (l.drop i) < 150000000000000 →
  seg_Feed.l0 k (bytesOf a) l (l.length : Int) (i : Int) = some (0, [], a ++ cat (l.drop i), true, 0) := by
 induction d with
 | zero =>
  intro i k a hi hk hz
  obtain ⟨k, rfl⟩ : ∃ m, k = m + 1 := ⟨k - 1, z2_⟩
  rw [seg_Feed.l0, if_neg z2_, List.drop_eq_nil_of_le z2_, strOfNums_bytesOf, cat, append_empty]
 | succ d ih =>
  intro i k a hi hk hz
  obtain ⟨k, rfl⟩ : ∃ m, k = m + 1 := ⟨k - 1, z2_⟩
  have e4 : wrap64 ((i : Int) + 1) = ((i + 1 : Nat) : Int) := by rw [wrap64_id z2_ z2_]; omega
  rw [rdOf_drop l i z2_] at hz ⊢
  simp only [tot] at hz
  have h4 : (bytesOf a).length + (rdOf ByteArray.empty l (i : Int)).size < 150000000000000 := by rw [bytesOf_length]; omega
  rw [feed_step0 (bytesOf a) l _ _ k z2_ z2_ z2_ h4, e4, ← bytesOf_append, ih (i + 1) k _ z2_ z2_ (by rw [ByteArray.size_append]; omega), cat, ByteArray.append_assoc]
theorem feed_end (of : Int) (l : List ByteArray) (n : Nat) (hl : l.length ≤ 140737488351232) (hz : tot l < 150000000000000) {k : Nat} (hk : l.length < k) :
  (if (l.length : Int) < (n : Int) then some (of, l, (⟨#[]⟩ : ByteArray), false, 0) else seg_Feed.l0 k ([] : List Int) l (l.length : Int) 0) = some (ended of l n) := by
 unfold ended
 by_cases h : l.length < n
 ·rw [if_pos z2_, if_pos h]; rfl
 ·rw [if_neg z2_, if_neg h]
  have := feed_l0 l hl l.length 0 k (mk []) z2_ hk (by rw [mk_size]; simpa using hz)
  rw [empty_append, List.drop_zero] at this
  exact this
theorem clone_eq (l : List ByteArray) (hl : l.length ≤ 8796093022208) : slices_Clone_string_string.f l = some l := by
 unfold slices_Clone_string_string.f; rw [if_pos hl]
theorem feed_body (k : Nat) (of : Int) (l : List ByteArray) (p r1 r2 : ByteArray) (i n : Int) (e1 e2 : Int) (x : Fed) (h1 : octet_Number.f k p 2 = some (i, r1, e1)) (h2 : octet_Number.f k r1 2 = some (n, r2, e2))
  (hbad : e1 ≠ 0 ∨ e2 ≠ 0 → x = (0, [], mk [], false, 2)) (hge : e1 = 0 → e2 = 0 → i ≥ n → x = (0, [], mk [], false, 3))
  (h0 : e1 = 0 → e2 = 0 → ¬ i ≥ n → i = 0 → (if (([r2] : List ByteArray).length : Int) < n then some (n, [r2], (⟨#[]⟩ : ByteArray), false, 0) else seg_Feed.l0 k ([] : List Int) [r2] ((([r2] : List ByteArray).length : Nat) : Int) 0) = some x)
  (hl : l.length < 8796093022208)
  (hmid : e1 = 0 → e2 = 0 → ¬ i ≥ n → i ≠ 0 → i = (l.length : Int) → n = of → (if ((l ++ [r2]).length : Int) < n then some (of, l ++ [r2], (⟨#[]⟩ : ByteArray), false, 0) else seg_Feed.l0 k ([] : List Int) (l ++ [r2]) ((l ++ [r2]).length : Int) 0) = some x)
  (hno : e1 = 0 → e2 = 0 → ¬ i ≥ n → i ≠ 0 → ¬ (i = (l.length : Int) ∧ n = of) → x = (0, [], mk [], false, 8)) : seg_Feed.f k of l p = some x := by
 unfold seg_Feed.f
 rw [h1]
 simp only [Option.bind_some]
 rw [h2]
 simp only [Option.bind_some]
 by_cases c1 : e1 = 0
 ·rw [if_pos c1]
  by_cases c2 : e2 = 0
  ·rw [if_pos c2]
   by_cases c3 : i ≥ n
   ·rw [if_pos c3, hge c1 c2 c3]; rfl
   ·rw [if_neg c3]
    by_cases c4 : i = 0
    ·rw [if_pos c4, clone_eq [] (by simp)]
     simp only [Option.bind_some, List.nil_append]
     rw [if_pos (by simp)]
     exact h0 c1 c2 c3 c4
    ·rw [if_neg c4]
     by_cases c5 : i = (l.length : Int)
     ·rw [if_pos c5]
      by_cases c6 : n = of
      ·rw [if_pos c6, clone_eq l z2_]
       simp only [Option.bind_some]
       rw [if_pos hl]
       exact hmid c1 c2 c3 c4 c5 c6
      ·rw [if_neg c6, hno c1 c2 c3 c4 (fun h => c6 h.2)]; rfl
     ·rw [if_neg c5, hno c1 c2 c3 c4 (fun h => c5 h.1)]; rfl
  ·rw [if_neg c2, hbad (.inr c2)]; rfl
 ·rw [if_neg c1, hbad (.inl c1)]; rfl
theorem feed_eq (of : Int) (l : List ByteArray) (p : ByteArray) (hl : l.length ≤ 100000) (hz : tot l + p.size < 150000000000000) {k : Nat} (hk : 200000 ≤ k) : seg_Feed.f k of l p = some (feedS of l p) := by
 have hn1 := number_eq p 2 (k := k) z2_
 unfold feedS
 by_cases h2 : p.size < 2
 ·rw [numberS_short p h2] at hn1
  have hn2 := number_eq (mk []) 2 (k := k) z2_
  rw [numberS_short (mk []) (by rw [mk_size]; decide)] at hn2
  rw [if_pos z2_]
  exact feed_body k of l p _ _ _ _ _ _ _ hn1 hn2 (fun _ => rfl) (fun h => absurd h z17_) (fun h => absurd h z17_) z2_ (fun h => absurd h z17_) (fun h => absurd h z17_)
 rw [numberS_two p z2_] at hn1
 have hn2 := number_eq (p.extract 2 p.size) 2 (k := k) z2_
 have hs2 : (p.extract 2 p.size).size = p.size - 2 := by rw [ByteArray.size_extract]; omega
 by_cases h4 : p.size < 4
 ·rw [numberS_short _ z2_] at hn2
  rw [if_pos h4]
  exact feed_body k of l p _ _ _ _ _ _ _ hn1 hn2 (fun _ => rfl) (fun _ h => absurd h z17_) (fun _ h => absurd h z17_) z2_ (fun _ h => absurd h z17_) (fun _ h => absurd h z17_)
 rw [numberS_two _ z2_] at hn2
 have hx : (p.extract 2 p.size).extract 2 (p.extract 2 p.size).size = p.extract 4 p.size := by
  rw [ByteArray.extract_extract, hs2, show min (2 + (p.size - 2)) p.size = p.size from z2_]
 rw [hx] at hn2
 rw [if_neg h4]
 have hps : (p.extract 4 p.size).size = p.size - 4 := by rw [ByteArray.size_extract]; omega
 unfold feedN
 generalize num (p.data.toList.take 2) = i at *
 generalize num ((p.extract 2 p.size).data.toList.take 2) = n at *
 generalize p.extract 4 p.size = r at *
 refine feed_body k of l p _ _ _ _ _ _ _ hn1 hn2 (fun h => absurd h (by simp)) (fun _ _ h => ?_) (fun _ _ h h5 => ?_) z2_ (fun _ _ h h5 h6 h7 => ?_) (fun _ _ h h5 h6 => ?_)
 ·rw [if_pos z2_]
 ·rw [if_neg (show ¬ n ≤ i from z2_), if_pos (show i = 0 from z2_)]
  exact feed_end _ [r] n (by simp) (by simp only [tot]; omega) z174_
 ·rw [if_neg (show ¬ n ≤ i from z2_), if_neg (show ¬ i = 0 from z2_), if_pos (show i = l.length ∧ (n : Int) = of from ⟨z2_, h7⟩)]
  exact feed_end _ (l ++ [r]) n z174_ (by rw [tot_append]; simp only [tot]; omega) z174_
 ·rw [if_neg (show ¬ n ≤ i from z2_), if_neg (show ¬ i = 0 from z2_), if_neg (fun h8 => h6 ⟨z2_, h8.2⟩)]
theorem feed_piece (of : Int) (l : List ByteArray) (s : ByteArray) (n c i : Nat) (hi : i < 65536) (hc : c < 65536) : feedS of l (pieceS s n c i) = feedN of l i c (cutAt s n i) := by
 have hz := pieceS_size s n c i
 have h1 : (pieceS s n c i).data.toList.take 2 = digs i 2 := by
  unfold pieceS
  simp only [ByteArray.data_append, Array.toList_append, mk_data, List.append_assoc]
  rw [List.take_append_of_le_length z173_, List.take_of_length_le z173_]
 have h2 : (pieceS s n c i).extract 2 (pieceS s n c i).size = mk (digs c 2) ++ cutAt s n i := by
  rw [hz]
  unfold pieceS
  rw [ByteArray.append_assoc]
  exact ByteArray.extract_append_eq_right z175_ (by rw [ByteArray.size_append, mk_size, mk_size, digs_length, digs_length]; omega)
 have h3 : (mk (digs c 2) ++ cutAt s n i).data.toList.take 2 = digs c 2 := by
  simp only [ByteArray.data_append, Array.toList_append, mk_data]
  rw [List.take_append_of_le_length z173_, List.take_of_length_le z173_]
 unfold feedS
 rw [if_neg z2_, h1, h2, h3, num_digs i 2 z2_, num_digs c 2 z2_, piece_tail]
theorem ended_parts (s : ByteArray) (n c i : Nat) (of : Int) (hof : of = (c : Int)) (hi : i < c) : ended of (partsS s n i ++ [cutAt s n i]) c = if i + 1 < c then ((c : Int), partsS s n (i + 1), mk [], false, 0) else (0, [], cat (partsS s n (i + 1)), true, 0) := by
 unfold ended
 rw [hof, ← partsS_succ, partsS_length]
theorem feed_first (of : Int) (l : List ByteArray) (s : ByteArray) (n c : Nat) (hc : 1 ≤ c) : feedN of l 0 c (cutAt s n 0) = if 1 < c then ((c : Int), partsS s n 1, mk [], false, 0) else (0, [], cat (partsS s n 1), true, 0) := by
 unfold feedN
 rw [if_neg z2_, if_pos rfl]
 exact ended_parts s n c 0 c rfl z2_
theorem feed_next (s : ByteArray) (n c i : Nat) (h0 : i ≠ 0) (hi : i < c) : feedN (c : Int) (partsS s n i) i c (cutAt s n i) = if i + 1 < c then ((c : Int), partsS s n (i + 1), mk [], false, 0) else (0, [], cat (partsS s n (i + 1)), true, 0) := by
 unfold feedN
 rw [if_neg z2_, if_neg h0, if_pos ⟨by rw [partsS_length], rfl⟩]
 exact ended_parts s n c i c rfl hi
theorem cat_append (a b : List ByteArray) : cat (a ++ b) = cat a ++ cat b := by
 induction a with
 | nil => rw [List.nil_append, cat, empty_append]
 | cons s r ih => simp only [List.cons_append, cat, ih, ByteArray.append_assoc]
theorem cat_parts (s : ByteArray) (n : Nat) (i : Nat) : cat (partsS s n i) = s.extract 0 (min s.size (i * n)) := by
 induction i with
 | zero =>
  simp only [partsS, List.range_zero, List.map_nil, cat, Nat.zero_mul, Nat.min_zero]
  apply ba_ext
  rw [data_extract_list]; rfl
 | succ i ih =>
  rw [partsS_succ, cat_append, ih]
  simp only [cat]
  rw [append_empty]
  have hm : i * n ≤ (i + 1) * n := Nat.mul_le_mul_right _ z2_
  unfold cutAt
  by_cases h : i * n ≤ s.size
  ·rw [Nat.min_eq_right h]
   exact upto s _ _ z2_
  ·have e1 : min s.size (i * n) = s.size := by omega
   have e2 : min s.size ((i + 1) * n) = s.size := by omega
   rw [e1, e2]
   apply ba_ext
   rw [ByteArray.data_append, Array.toList_append, data_extract_list, data_extract_list]
   have hl : s.data.toList.length = s.size := by simp
   have hdr : List.drop (i * n) (List.take s.size s.data.toList) = [] := List.drop_eq_nil_of_le (by rw [List.length_take, hl]; omega)
   rw [hdr, List.append_nil]
theorem cat_all (s : ByteArray) (n : Nat) (hn : 1 ≤ n) : cat (partsS s n (cnt s.size n)) = s := by
 rw [cat_parts, Nat.min_eq_left (cnt_end hn), ByteArray.extract_zero_size]
theorem ended_bound (of : Int) (l : List ByteArray) (n : Nat) : (ended of l n).2.1.length ≤ l.length ∧ tot (ended of l n).2.1 ≤ tot l := by
 unfold ended
 split
 ·exact ⟨Nat.le_refl _, Nat.le_refl _⟩
 ·exact ⟨by simp, by simp [tot]⟩
theorem feed_bound (of : Int) (l : List ByteArray) (p : ByteArray) : (feedS of l p).2.1.length ≤ l.length + 1 ∧ tot (feedS of l p).2.1 ≤ tot l + p.size := by
 have hp : (p.extract 4 p.size).size ≤ p.size := by rw [ByteArray.size_extract]; omega
 unfold feedS
 split
 ·exact ⟨by simp, by simp [tot]⟩
 ·unfold feedN
  split
  ·exact ⟨by simp, by simp [tot]⟩
  ·split
   ·have := ended_bound ((num ((p.extract 2 p.size).data.toList.take 2) : Nat) : Int) [p.extract 4 p.size] (num ((p.extract 2 p.size).data.toList.take 2))
    simp only [List.length_singleton, tot] at this
    exact ⟨z2_, z2_⟩
   ·split
    ·have := ended_bound of (l ++ [p.extract 4 p.size]) (num ((p.extract 2 p.size).data.toList.take 2))
     rw [List.length_append, List.length_singleton, tot_append] at this
     simp only [tot] at this
     exact ⟨z2_, z2_⟩
    ·exact ⟨by simp, by simp [tot]⟩
structure Fd where
 n : Int
 l : List ByteArray
 t : List ByteArray
def fed (x : Fd) (p : ByteArray) : Fd := ⟨(feedS x.n x.l p).1, (feedS x.n x.l p).2.1, if (feedS x.n x.l p).2.2.2.1 = true then x.t ++ [(feedS x.n x.l p).2.2.1] else x.t⟩
theorem fed_one (s : ByteArray) (n c i : Nat) (hn1 : 1 ≤ n) (hcc : c = cnt s.size n) (hc : c < 65536) (hi : i < c) (x : Fd) (hx : i ≠ 0 → x.n = (c : Int) ∧ x.l = partsS s n i) :
  fed x (pieceS s n c i) = if i + 1 < c then ⟨(c : Int), partsS s n (i + 1), x.t⟩ else ⟨0, [], x.t ++ [s]⟩ := by
 have hr : feedS x.n x.l (pieceS s n c i) = if i + 1 < c then ((c : Int), partsS s n (i + 1), mk [], false, 0) else (0, [], cat (partsS s n (i + 1)), true, 0) := by
  rw [feed_piece x.n x.l s n c i z2_ z2_]
  by_cases h0 : i = 0
  ·subst h0
   exact feed_first x.n x.l s n c z2_
  ·obtain ⟨h1, h2⟩ := hx h0
   rw [h1, h2, feed_next s n c i h0 hi]
 unfold fed
 rw [hr]
 by_cases h : i + 1 < c
 ·rw [if_pos h, if_pos h]
  simp
 ·rw [if_neg h, if_neg h]
  have e : cat (partsS s n (i + 1)) = s := by rw [show i + 1 = c from z2_, hcc, cat_all s n hn1]
  rw [e]
  simp
theorem fed_text (s : ByteArray) (n c : Nat) (hn1 : 1 ≤ n) (hcc : c = cnt s.size n) (hc : c < 65536) (T : List ByteArray) : ∀ i, i ≤ c → (piecesS s n c i).foldl fed ⟨0, [], T⟩ = if i = 0 then ⟨0, [], T⟩ else if i < c then ⟨(c : Int), partsS s n i, T⟩ else ⟨0, [], T ++ [s]⟩ := by
 intro i
 induction i with
 | zero => intro _; rfl
 | succ i ih =>
  intro hi
  have h := ih z2_
  have e : piecesS s n c (i + 1) = piecesS s n c i ++ [pieceS s n c i] := by simp [piecesS, List.range_succ]
  rw [if_neg (show ¬ (i + 1 = 0) from z2_), e, List.foldl_append, List.foldl_cons, List.foldl_nil]
  by_cases h0 : i = 0
  ·subst h0
   rw [if_pos rfl] at h
   rw [h, fed_one s n c 0 hn1 hcc hc z2_ _ (fun h => absurd rfl h)]
  ·rw [if_neg h0, if_pos z2_] at h
   rw [h, fed_one s n c i hn1 hcc hc z2_ _ (fun _ => ⟨rfl, rfl⟩)]
def piecesOf (n : Nat) (ws : List ByteArray) : List ByteArray := ws.flatMap fun s => piecesS s n (cnt s.size n) (cnt s.size n)
theorem pieces_take (s : ByteArray) (n c i m : Nat) (h : i ≤ m) : (piecesS s n c m).take i = piecesS s n c i := by
 unfold piecesS
 rw [← List.map_take, List.take_range, Nat.min_eq_left h]
theorem fed_all (n : Nat) (hn1 : 1 ≤ n) : ∀ (ws : List ByteArray), (∀ s ∈ ws, cnt s.size n < 65536) → ∀ (T : List ByteArray) (w : Nat), w ≤ (piecesOf n ws).length →
  ∃ j, j ≤ ws.length ∧ (((piecesOf n ws).take w).foldl fed ⟨0, [], T⟩).t = T ++ ws.take j ∧ (w = (piecesOf n ws).length → ((piecesOf n ws).take w).foldl fed ⟨0, [], T⟩ = ⟨0, [], T ++ ws⟩) := by
 intro ws
 induction ws with
 | nil =>
  intro _ T w hw
  have e : piecesOf n [] = [] := rfl
  rw [e, List.take_nil]
  exact ⟨0, Nat.le_refl _, by simp, fun _ => by simp⟩
 | cons s r ih =>
  intro hs T w hw
  have hc := hs s List.mem_cons_self
  have e : piecesOf n (s :: r) = piecesS s n (cnt s.size n) (cnt s.size n) ++ piecesOf n r := by unfold piecesOf; rw [List.flatMap_cons]
  have hl : (piecesS s n (cnt s.size n) (cnt s.size n)).length = cnt s.size n := piecesS_length _ _ _ _
  have hp := cnt_pos s.size n
  rw [e, List.length_append, hl] at hw
  rw [e]
  by_cases h : w < cnt s.size n
  ·rw [List.take_append_of_le_length z2_, pieces_take s n _ w _ z2_, fed_text s n _ hn1 rfl hc T w z2_]
   refine ⟨0, Nat.zero_le _, ?_, fun hx => ?_⟩
   ·rw [List.take_zero, List.append_nil]
    split
    ·rfl
    ·first | rfl | rw [if_pos h]
   ·rw [List.length_append, hl] at hx
    omega
  ·obtain ⟨j, hj, h1, h2⟩ := ih (fun x hx => hs x (List.mem_cons_of_mem _ hx)) (T ++ [s]) (w - cnt s.size n) z2_
   have h3 : (piecesS s n (cnt s.size n) (cnt s.size n)).foldl fed ⟨0, [], T⟩ = ⟨0, [], T ++ [s]⟩ := by
    rw [fed_text s n _ hn1 rfl hc T (cnt s.size n) (Nat.le_refl _), if_neg z2_, if_neg z2_]
   have h4 : ((piecesS s n (cnt s.size n) (cnt s.size n) ++ piecesOf n r).take w).foldl fed ⟨0, [], T⟩ = ((piecesOf n r).take (w - cnt s.size n)).foldl fed ⟨0, [], T ++ [s]⟩ := by
    rw [List.take_append, List.take_of_length_le z2_, hl, List.foldl_append, h3]
   rw [h4]
   refine ⟨j + 1, z182_, ?_, fun hx => ?_⟩
   ·rw [h1, List.take_succ_cons, List.append_assoc, List.singleton_append]
   ·rw [List.length_append, hl] at hx
    rw [h2 z2_, List.append_assoc, List.singleton_append]
end Go.Proofs.Ytecfndblgefhdaa.Seg
namespace Go.Proofs.Ytecfndblgefhdaa.Link
open Go.RowKit Go.Proofs.Ytecfndblgefhdaa.P Go.Proofs.Ytecfndblgefhdaa.Core Go.Proofs.Ytecfndblgefhdaa.Oct Go.Proofs.Ytecfndblgefhdaa.Frame Go.Proofs.Ytecfndblgefhdaa.Seg Go.Proofs.YtecfndblgefhdaaW.PrintWords Go.Proofs.YtecfndblgefhdaaW.PrintLast Go.Proofs.YtecfndblgefhdaaW.PrintMore
def Good1 (P : List ByteArray) (e0 e1 : En) (p : S93) : Prop := (p.f0 = 1 ∧ GoodQ 1 1 e0.w P p.f1) ∨ (p.f0 = 0 ∧ GoodQ 1 1 e1.w [] p.f1)
structure Iv (P : List ByteArray) (L : RS) (e0 e1 : En) : Prop where
 x0 : L.x0 = e0.s24 1
 x1 : L.x1 = e1.s24 1
 d0 : Dir 1 e0 e1 P (P.take (e1.w - 1))
 d1 : Dir 1 e1 e0 [] []
 net : ∀ p ∈ L.net, Good1 P e0 e1 p
 heard : (P.take (e1.w - 1)).foldl fed ⟨0, [], []⟩ = ⟨L.jn, L.jl, L.texts⟩
 np : P.length ≤ 1400
theorem Iv.w0 {P : List ByteArray} {L : RS} {e0 e1 : En} (h : Iv P L e0 e1) : 1 ≤ e0.w := Nat.le_trans h.d1.f1 h.d1.fw
theorem Iv.w1 {P : List ByteArray} {L : RS} {e0 e1 : En} (h : Iv P L e0 e1) : 1 ≤ e1.w := Nat.le_trans h.d0.f1 h.d0.fw
theorem Iv.right0 {P : List ByteArray} {L : RS} {e0 e1 : En} (h : Iv P L e0 e1) : rightS ((1 : Nat) : Int) (e0.o : Int) (e0.f : Int) e0.l (e0.w : Int) = true :=
 h.d0.right h.d1 z17_ z17_ z17_ (by have := h.np; omega) z17_
theorem Iv.right1 {P : List ByteArray} {L : RS} {e0 e1 : En} (h : Iv P L e0 e1) : rightS ((1 : Nat) : Int) (e1.o : Int) (e1.f : Int) e1.l (e1.w : Int) = true :=
 h.d1.right h.d0 z17_ z17_ z17_ z17_ (by have := h.np; omega)
theorem Iv.setNet {P : List ByteArray} {L : RS} {e0 e1 : En} (h : Iv P L e0 e1) (net : List S93) (hn : ∀ p ∈ net, Good1 P e0 e1 p) : Iv P { L with net := net } e0 e1 :=
 ⟨h.x0, h.x1, h.d0, h.d1, hn, h.heard, h.np⟩
theorem Iv.gone {P : List ByteArray} {L : RS} {e0 e1 : En} (h : Iv P L e0 e1) (i : Nat) : Iv P (L.gone i) e0 e1 := by
 refine h.setNet _ (fun p hp => ?_)
 rcases List.mem_append.1 hp with hp | hp
 ·exact h.net p (List.mem_of_mem_take hp)
 ·exact h.net p (List.mem_of_mem_drop hp)
theorem Iv.reply {P : List ByteArray} {L : RS} {e0 e1 : En} (h : Iv P L e0 e1) (tq : Int) (s : ByteArray) (hs : s = Core.mk [] ∨ Good1 P e0 e1 ⟨tq, s⟩) : Iv P (L.reply tq s) e0 e1 := by
 unfold RS.reply
 by_cases c : s = (⟨#[]⟩ : ByteArray)
 ·rw [if_pos c]; exact h
 ·rw [if_neg c]
  refine h.setNet _ (fun q hq => ?_)
  rcases List.mem_append.1 hq with hq | hq
  ·exact h.net q hq
  ·rw [List.mem_singleton.1 hq]
   exact hs.resolve_left c
theorem fed_bound : ∀ (ps : List ByteArray) (x : Seg.Fd), (∀ p ∈ ps, p.size ≤ 512) → (ps.foldl fed x).l.length ≤ x.l.length + ps.length ∧ tot (ps.foldl fed x).l ≤ tot x.l + 512 * ps.length := by
 intro ps
 induction ps with
 | nil => intro x _; exact ⟨Nat.le_refl _, Nat.le_refl _⟩
 | cons p r ih =>
  intro x hx
  obtain ⟨h1, h2⟩ := ih (fed x p) (fun q hq => hx q (List.mem_cons_of_mem _ hq))
  obtain ⟨h3, h4⟩ := feed_bound x.n x.l p
  have h5 := hx p List.mem_cons_self
  have h6 : (fed x p).l = (feedS x.n x.l p).2.1 := rfl
  rw [h6] at h1 h2
  rw [List.foldl_cons, List.length_cons]
  omega
theorem Iv.jl {P : List ByteArray} {L : RS} {e0 e1 : En} (h : Iv P L e0 e1) : L.jl.length ≤ 1400 ∧ tot L.jl ≤ 1000000 := by
 have h1 := fed_bound (P.take (e1.w - 1)) ⟨0, [], []⟩ (fun p hp => h.d0.short p (List.mem_of_mem_take hp))
 rw [h.heard] at h1
 have h2 := h.np
 have h3 : (P.take (e1.w - 1)).length ≤ P.length := by rw [List.length_take]; omega
 obtain ⟨h4, h5⟩ := h1
 have h6 : tot ([] : List ByteArray) = 0 := rfl
 simp only [List.length_nil] at h4
 rw [h6] at h5
 have h7 : tot L.jl ≤ 0 + 512 * (P.take (e1.w - 1)).length := h5
 have h8 : L.jl.length ≤ 0 + (P.take (e1.w - 1)).length := h4
 clear h4 h5
 constructor <;> omega
structure Same (L M : RS) : Prop where
 net : M.net = L.net
 want : M.want = L.want
 sent : M.sent = L.sent
 cut : M.cut = L.cut
theorem goodsize {es er ws : Nat} {ps : List ByteArray} {q : ByteArray} (h : GoodQ es er ws ps q) : q.size ≤ 140737488351232 := by have := h.size; omega
theorem Iv.come0 {P : List ByteArray} {L : RS} {e0 e1 : En} (h : Iv P L e0 e1) {k : Nat} (hk : 200000 ≤ k) (p : S93) (h0 : p.f0 = 0) (hp : GoodQ 1 1 e1.w [] p.f1) (ht : L.texts.length ≤ 1000) (hn : L.net.length ≤ 2000) :
  ∃ M, L.come k p = some (M.reply 1 (takeS 1 e0.o e0.f e0.l e0.w p.f1).reply) ∧ Iv P (M.reply 1 (takeS 1 e0.o e0.f e0.l e0.w p.f1).reply) (e0.after 1 p.f1) e1 ∧ Same L M := by
 have hnp := h.np
 obtain ⟨t1, t2, t3, t4⟩ := dir_take h.d1 h.d0 hp z17_ z17_ z17_ z17_ z2_
 have hhas : (takeS 1 e0.o e0.f e0.l e0.w p.f1).has = false := by
  cases hc : (takeS 1 e0.o e0.f e0.l e0.w p.f1).has with
  | false => rfl
  | true =>
   have := t1.came
   rw [hc, if_pos rfl] at this
   simp at this
 rw [hhas, if_neg z17_] at t1
 have hi : Iv P { L with x0 := (e0.after 1 p.f1).s24 1 } (e0.after 1 p.f1) e1 := by
  refine ⟨rfl, h.x1, t2, t1, fun q hq => ?_, h.heard, h.np⟩
  rcases h.net q hq with ⟨a, b⟩ | ⟨a, b⟩
  ·exact .inl ⟨a, b.le t3⟩
  ·exact .inr ⟨a, b⟩
 refine ⟨{ L with x0 := (e0.after 1 p.f1).s24 1 }, ?_, hi.reply 1 _ ?_, ⟨rfl, rfl, rfl, rfl⟩⟩
 ·unfold RS.come
  rw [if_neg z2_, if_pos h0, h.x0]
  show (link_Take.f k ((1 : Nat) : Int) (e0.o : Int) (e0.f : Int) e0.l (e0.w : Int) p.f1).bind _ = _
  rw [take_good 1 e0.o e0.f e0.w e0.l p.f1 (goodsize hp) z2_ h.right0]
  simp only [Option.bind_some]
  have hh : RS.hearO k { L with x0 := ⟨((1 : Nat) : Int), (resS (takeS 1 e0.o e0.f e0.l e0.w p.f1)).o, (resS (takeS 1 e0.o e0.f e0.l e0.w p.f1)).f, (resS (takeS 1 e0.o e0.f e0.l e0.w p.f1)).l, (resS (takeS 1 e0.o e0.f e0.l e0.w p.f1)).w⟩ } (resS (takeS 1 e0.o e0.f e0.l e0.w p.f1)) = some { L with x0 := (e0.after 1 p.f1).s24 1 } := by
   unfold RS.hearO
   rw [if_neg (by show ¬ (takeS 1 e0.o e0.f e0.l e0.w p.f1).has = true; rw [hhas]; decide)]
   rfl
  refine Option.bind_eq_some_iff.2 ⟨_, hh, ?_⟩
  rw [if_pos (by show L.net.length ≤ 100000; omega)]
  rfl
 ·rcases t4 with t4 | t4
  ·exact .inl t4
  ·exact .inr (.inl ⟨rfl, t4⟩)
theorem Iv.come1 {P : List ByteArray} {L : RS} {e0 e1 : En} (h : Iv P L e0 e1) {k : Nat} (hk : 200000 ≤ k) (p : S93) (h0 : p.f0 = 1) (hp : GoodQ 1 1 e0.w P p.f1) (ht : L.texts.length ≤ 1000) (hn : L.net.length ≤ 2000) :
  ∃ M, L.come k p = some (M.reply 0 (takeS 1 e1.o e1.f e1.l e1.w p.f1).reply) ∧ Iv P (M.reply 0 (takeS 1 e1.o e1.f e1.l e1.w p.f1).reply) e0 (e1.after 1 p.f1) ∧ Same L M := by
 have hnp := h.np
 have hjl := h.jl
 obtain ⟨t1, t2, t3, t4⟩ := dir_take h.d0 h.d1 hp z17_ z17_ z17_ z2_ z17_
 have hcame := t1.came
 rw [hcame] at t1
 have hnet : ∀ q ∈ L.net, Good1 P e0 (e1.after 1 p.f1) q := fun q hq => by
  rcases h.net q hq with ⟨a, b⟩ | ⟨a, b⟩
  ·exact .inl ⟨a, b⟩
  ·exact .inr ⟨a, b.le t3⟩
 have hrep : (takeS 1 e1.o e1.f e1.l e1.w p.f1).reply = Core.mk [] ∨ Good1 P e0 (e1.after 1 p.f1) ⟨0, (takeS 1 e1.o e1.f e1.l e1.w p.f1).reply⟩ := by
  rcases t4 with t4 | t4
  ·exact .inl t4
  ·exact .inr (.inr ⟨rfl, t4⟩)
 have hgo : ∀ M : RS, RS.hearO k { L with x1 := ⟨((1 : Nat) : Int), (resS (takeS 1 e1.o e1.f e1.l e1.w p.f1)).o, (resS (takeS 1 e1.o e1.f e1.l e1.w p.f1)).f, (resS (takeS 1 e1.o e1.f e1.l e1.w p.f1)).l, (resS (takeS 1 e1.o e1.f e1.l e1.w p.f1)).w⟩ } (resS (takeS 1 e1.o e1.f e1.l e1.w p.f1)) = some M → M.net = L.net → L.come k p = some (M.reply 0 (takeS 1 e1.o e1.f e1.l e1.w p.f1).reply) := by
  intro M hM hMn
  unfold RS.come
  rw [if_neg z2_, if_neg (by rw [h0]; decide), if_pos h0, h.x1]
  show (link_Take.f k ((1 : Nat) : Int) (e1.o : Int) (e1.f : Int) e1.l (e1.w : Int) p.f1).bind _ = _
  rw [take_good 1 e1.o e1.f e1.w e1.l p.f1 (goodsize hp) z2_ h.right1]
  simp only [Option.bind_some]
  refine Option.bind_eq_some_iff.2 ⟨M, hM, ?_⟩
  rw [if_pos (by rw [hMn]; omega)]
  rfl
 cases hc : (takeS 1 e1.o e1.f e1.l e1.w p.f1).has with
 | false =>
  rw [hc, if_neg z17_] at hcame
  have hi : Iv P { L with x1 := (e1.after 1 p.f1).s24 1 } e0 (e1.after 1 p.f1) := ⟨h.x0, rfl, t1, t2, hnet, by rw [← hcame]; exact h.heard, h.np⟩
  refine ⟨{ L with x1 := (e1.after 1 p.f1).s24 1 }, hgo _ ?_ rfl, hi.reply 0 _ hrep, ⟨rfl, rfl, rfl, rfl⟩⟩
  unfold RS.hearO
  rw [if_neg (by show ¬ (takeS 1 e1.o e1.f e1.l e1.w p.f1).has = true; rw [hc]; decide)]
  rfl
 | true =>
  rw [hc, if_pos rfl] at hcame
  have hsz : (takeS 1 e1.o e1.f e1.l e1.w p.f1).s.size ≤ 512 := by
   refine h.d0.short _ (List.mem_of_mem_take (i := (e1.after 1 p.f1).w - 1) ?_)
   rw [← hcame]
   exact List.mem_append.2 (.inr List.mem_cons_self)
  generalize hs : (takeS 1 e1.o e1.f e1.l e1.w p.f1).s = s at hcame hsz
  have hfd : seg_Feed.f k L.jn L.jl s = some (feedS L.jn L.jl s) := feed_eq L.jn L.jl s z2_ z2_ hk
  have hh : (P.take ((e1.after 1 p.f1).w - 1)).foldl fed ⟨0, [], []⟩ = fed ⟨L.jn, L.jl, L.texts⟩ s := by
   rw [← hcame, List.foldl_append, h.heard]
   rfl
  have hi : Iv P (RS.hear { L with x1 := (e1.after 1 p.f1).s24 1 } (feedS L.jn L.jl s).1 (feedS L.jn L.jl s).2.1 (feedS L.jn L.jl s).2.2.1 (feedS L.jn L.jl s).2.2.2.1) e0 (e1.after 1 p.f1) :=
   ⟨h.x0, rfl, t1, t2, hnet, hh, h.np⟩
  refine ⟨RS.hear { L with x1 := (e1.after 1 p.f1).s24 1 } (feedS L.jn L.jl s).1 (feedS L.jn L.jl s).2.1 (feedS L.jn L.jl s).2.2.1 (feedS L.jn L.jl s).2.2.2.1, hgo _ ?_ rfl, hi.reply 0 _ hrep, ⟨rfl, rfl, rfl, rfl⟩⟩
  unfold RS.hearO
  rw [if_pos (by show (takeS 1 e1.o e1.f e1.l e1.w p.f1).has = true; exact hc)]
  show Option.map _ (seg_Feed.f k L.jn L.jl (takeS 1 e1.o e1.f e1.l e1.w p.f1).s) = _
  rw [hs, hfd]
  rfl
theorem Iv.tick {P : List ByteArray} {L : RS} {e0 e1 : En} (h : Iv P L e0 e1) {k : Nat} (hk : 200000 ≤ k) : L.tick k = some (L.outs (tickS 1 e0.o e0.f e0.l e0.w (min e0.l.length 4))) ∧ Iv P (L.outs (tickS 1 e0.o e0.f e0.l e0.w (min e0.l.length 4))) e0 e1 := by
 constructor
 ·unfold RS.tick
  rw [h.x0]
  show (link_Tick.f k ((1 : Nat) : Int) (e0.o : Int) (e0.f : Int) e0.l (e0.w : Int)).bind _ = _
  rw [tick_good 1 e0.o e0.f e0.l e0.w z2_ h.right0]
  simp only [Option.bind_some]
  rw [if_pos (by rw [tickS_length]; omega)]
 ·refine h.setNet _ (fun p hp => ?_)
  rcases List.mem_append.1 hp with hp | hp
  ·exact h.net p hp
  ·obtain ⟨s, hs, rfl⟩ := List.mem_map.1 hp
   obtain ⟨i, hi, rfl⟩ := List.mem_map.1 hs
   rw [List.mem_range] at hi
   exact .inl ⟨rfl, good_piece (er := 1) h.d0 i z2_ e0.o e0.w h.d1.o h.w0⟩
theorem Iv.put {P : List ByteArray} {L : RS} {e0 e1 : En} (h : Iv P L e0 e1) {k : Nat} (hk : 200000 ≤ k) (s : ByteArray) (hs : s.size ≤ 512) (hl : e0.l.length < 64) (hn : L.net.length ≤ 2000) (hp : P.length < 1400) :
  ∃ L', L.put k s = some L' ∧ Iv (P ++ [s]) L' ⟨e0.o, e0.f, e0.l ++ [s], e0.w⟩ e1 ∧ L'.want = L.want ∧ L'.sent = L.sent ∧ L'.cut = L.cut ∧ L'.net.length ≤ L.net.length + 1 := by
 have hd := dir_put h.d0 s hs z2_
 have hwl := h.d0.wl
 have a1 := h.d0.f1
 have a2 := h.d0.fw
 have htk : (P ++ [s]).take (e1.w - 1) = P.take (e1.w - 1) := List.take_append_of_le_length z2_
 have hi : Iv (P ++ [s]) { L with x0 := (⟨e0.o, e0.f, e0.l ++ [s], e0.w⟩ : En).s24 1 } ⟨e0.o, e0.f, e0.l ++ [s], e0.w⟩ e1 := by
  refine ⟨rfl, h.x1, by rw [htk]; exact hd, ⟨h.d1.o, h.d1.ow, h.d1.f1, h.d1.fw, h.d1.wl, h.d1.out, h.d1.came, h.d1.few, h.d1.short⟩, fun q hq => ?_, by rw [htk]; exact h.heard, z183_⟩
  rcases h.net q hq with ⟨a, b⟩ | ⟨a, b⟩
  ·exact .inl ⟨a, b.mono (Nat.le_refl _)⟩
  ·exact .inr ⟨a, b⟩
 have hput : link_Put.f k L.x0.f0 L.x0.f1 L.x0.f2 L.x0.f3 L.x0.f4 s = some (((1 : Nat) : Int), (e0.o : Int), (e0.f : Int), e0.l ++ [s], (e0.w : Int), if 4 < e0.l.length + 1 then Core.mk [] else packetS 1 1 e0.o (e0.f + e0.l.length) e0.w s, 0) := by
  rw [h.x0]
  show link_Put.f k ((1 : Nat) : Int) (e0.o : Int) (e0.f : Int) e0.l (e0.w : Int) s = _
  rw [put_good 1 e0.o e0.f e0.l e0.w s z2_ h.right0]
  unfold putL
  rw [if_neg z2_, if_neg z2_]
 generalize hq : (if 4 < e0.l.length + 1 then Core.mk [] else packetS 1 1 e0.o (e0.f + e0.l.length) e0.w s) = q at hput
 have hgq : q = Core.mk [] ∨ Good1 (P ++ [s]) ⟨e0.o, e0.f, e0.l ++ [s], e0.w⟩ e1 ⟨1, q⟩ := by
  by_cases c3 : 4 < e0.l.length + 1
  ·rw [if_pos c3] at hq; exact .inl hq.symm
  ·rw [if_neg c3] at hq
   right
   refine .inl ⟨rfl, ?_⟩
   have hg := good_piece (er := 1) hd e0.l.length (by simp) e0.o e0.w h.d1.o h.w0
   rw [show rdOf ByteArray.empty (e0.l ++ [s]) (e0.l.length : Int) = s by simp [rdOf]] at hg
   show GoodQ 1 1 e0.w (P ++ [s]) q
   rw [← hq]
   exact hg
 have hr := hi.reply 1 q hgq
 refine ⟨RS.reply { L with x0 := (⟨e0.o, e0.f, e0.l ++ [s], e0.w⟩ : En).s24 1 } 1 q, ?_, hr, ?_, ?_, ?_, ?_⟩
 ·unfold RS.put
  rw [hput]
  simp only [Option.bind_some]
  rw [if_pos z2_, if_pos trivial]
  rfl
 ·unfold RS.reply; split <;> rfl
 ·unfold RS.reply; split <;> rfl
 ·unfold RS.reply; split <;> rfl
 ·unfold RS.reply; split
  ·exact Nat.le_succ _
  ·simp
theorem Iv.puts {k : Nat} (hk : 200000 ≤ k) : ∀ (ss P : List ByteArray) (L : RS) (e0 e1 : En), Iv P L e0 e1 → (∀ s ∈ ss, s.size ≤ 512) → e0.l.length + ss.length ≤ 64 → L.net.length + ss.length ≤ 2000 → P.length + ss.length ≤ 1400 →
  ∃ L' e0', RS.puts k ss L = some L' ∧ Iv (P ++ ss) L' e0' e1 ∧ L'.want = L.want ∧ L'.sent = L.sent ∧ L'.cut = L.cut := by
 intro ss
 induction ss with
 | nil =>
  intro P L e0 e1 h _ _ _ _
  exact ⟨L, e0, rfl, by rw [List.append_nil]; exact h, rfl, rfl, rfl⟩
 | cons s r ih =>
  intro P L e0 e1 h hs hl hn hp
  rw [List.length_cons] at hl hn hp
  obtain ⟨L1, h1, h2, h3, h4, h5, h6⟩ := h.put hk s (hs s List.mem_cons_self) z2_ z2_ z2_
  obtain ⟨L', e0', g1, g2, g3, g4, g5⟩ := ih (P ++ [s]) L1 _ e1 h2 (fun x hx => hs x (List.mem_cons_of_mem _ hx)) (by simp only [List.length_append, List.length_singleton]; omega) z2_ z183_
  refine ⟨L', e0', ?_, by rw [List.append_assoc] at g2; exact g2, g3.trans h3, g4.trans h4, g5.trans h5⟩
  unfold RS.puts
  rw [h1]
  exact g1
end Go.Proofs.Ytecfndblgefhdaa.Link
namespace Go.Proofs.Ytecfndblgefhdaa.Msg
open Go.RowKit Go.Proofs.Ytecfndblgefhdaa.P Go.Proofs.Ytecfndblgefhdaa.Core Go.Proofs.Ytecfndblgefhdaa.Oct Go.Proofs.YtecfndblgefhdaaW.PrintWords Go.Proofs.YtecfndblgefhdaaW.PrintLast Go.Proofs.YtecfndblgefhdaaW.PrintMore
theorem w64 {n : Int} (h0 : -9223372036854775808 ≤ n) (h1 : n ≤ 9223372036854775807) : wrap64 n = n := by unfold wrap64; omega
theorem rdB (l : List S160) (i : Nat) (h : i < l.length) : rd_T160 l (i : Int) = l[i] := by
 unfold rd_T160
 rw [Int.toNat_natCast, List.getD_eq_getElem?_getD, List.getElem?_eq_getElem h]
 rfl
theorem rdW (l : List S120) (i : Nat) (h : i < l.length) : rd_T120 l (i : Int) = l[i] := by
 unfold rd_T120
 rw [Int.toNat_natCast, List.getD_eq_getElem?_getD, List.getElem?_eq_getElem h]
 rfl
theorem rdI (l : List Int) (i : Nat) (h : i < l.length) : rd l (i : Int) = l[i] := by
 unfold rd
 rw [Int.toNat_natCast, List.getD_eq_getElem?_getD, List.getElem?_eq_getElem h]
 rfl
def lrun : Int → Int → List S160 → Bool
 | _, _, [] => true
 | e, a, b :: r => decide (e < b.f0 ∧ b.f0 ≤ 1099511627776 ∧ a ≤ b.f1 ∧ b.f1 ≤ 1099511627776) && lrun b.f0 b.f1 r
def lineB (l : List S160) : Bool := decide (1 ≤ l.length ∧ l.length ≤ 64 ∧ (rd_T160 l 0).f1 = 0) && lrun 0 0 l
theorem line_l0 (l : List S160) (hl : l.length ≤ 64) (d : Nat) : ∀ (i k : Nat) (e a : Int), i + d = l.length → d < k → line_Right.l0 k e a l (l.length : Int) (i : Int) = some (lrun e a (l.drop i)) := by
 induction d with
 | zero =>
  intro i k e a hi hk
  obtain ⟨k, rfl⟩ : ∃ j, k = j + 1 := ⟨k - 1, z2_⟩
  rw [line_Right.l0, if_neg z2_, List.drop_eq_nil_of_le z2_]
  rfl
 | succ d ih =>
  intro i k e a hi hk
  obtain ⟨k, rfl⟩ : ∃ j, k = j + 1 := ⟨k - 1, z2_⟩
  have hl2 : i < l.length := by omega
  rw [line_Right.l0, if_pos z2_, if_pos z2_, if_pos z2_, rdB l i hl2, List.drop_eq_getElem_cons hl2, w64 z2_ z2_, show ((i : Int) + 1) = ((i + 1 : Nat) : Int) from z2_, lrun]
  by_cases c1 : (l[i]).f0 ≤ e
  ·rw [if_pos c1, decide_eq_false z2_]; rfl
  rw [if_neg c1]
  by_cases c2 : (l[i]).f0 > 1099511627776
  ·rw [if_pos c2, decide_eq_false z2_]; rfl
  rw [if_neg c2]
  by_cases c3 : (l[i]).f1 < a
  ·rw [if_pos c3, decide_eq_false z2_]; rfl
  rw [if_neg c3]
  by_cases c4 : (l[i]).f1 > 1099511627776
  ·rw [if_pos c4, decide_eq_false z2_]; rfl
  rw [if_neg c4, decide_eq_true z2_, Bool.true_and]
  exact ih (i + 1) k _ _ z2_ z2_
theorem line_eq (l : List S160) {k : Nat} (hk : 70 ≤ k) : line_Right.f k l = some (lineB l) := by
 obtain ⟨k, rfl⟩ : ∃ j, k = j + 1 := ⟨k - 1, z2_⟩
 unfold line_Right.f lineB
 by_cases c1 : (l.length : Int) < 1
 ·rw [if_pos c1, line_Right.j0, if_pos rfl, decide_eq_false z2_]; rfl
 rw [if_neg c1]
 by_cases c2 : (l.length : Int) > 64
 ·rw [if_pos c2, line_Right.j0, if_pos rfl, decide_eq_false z2_]; rfl
 rw [if_neg c2, if_pos z2_, line_Right.j0]
 by_cases c3 : (rd_T160 l 0).f1 = 0
 ·rw [if_neg (by simp [c3]), decide_eq_true z2_, Bool.true_and]
  exact line_l0 l z2_ l.length 0 k 0 0 z2_ z2_
 ·rw [if_pos (by simp [c3]), decide_eq_false z2_]; rfl
theorem lrun_mem {l : List S160} : ∀ {e a : Int}, lrun e a l = true → 0 ≤ e → 0 ≤ a → ∀ b ∈ l, (0 ≤ b.f0 ∧ b.f0 ≤ 1099511627776) ∧ 0 ≤ b.f1 ∧ b.f1 ≤ 1099511627776 := by
 induction l with
 | nil => intro e a _ _ _ b hb; cases hb
 | cons x r ih =>
  intro e a h he ha b hb
  rw [lrun, Bool.and_eq_true, decide_eq_true_eq] at h
  rcases List.mem_cons.1 hb with rfl | hb
  ·omega
  ·exact ih h.2 z2_ z2_ b hb
def cmpS (a b : Int) : Int := if a < b then -1 else if a > b then 1 else 0
theorem cmp_eq (a b : Int) : cmp_Compare_int.f a b = some (cmpS a b) := by
 unfold cmp_Compare_int.f cmp_isNaN_int.f cmpS
 simp only [Option.bind_some, bne_self_eq_false]
 rw [if_neg z17_, if_neg z17_]
 by_cases h : a < b
 ·rw [if_pos h, if_pos h]
 ·rw [if_neg h, if_neg h]
  by_cases h2 : a > b
  ·rw [if_pos h2, if_pos h2]
  ·rw [if_neg h2, if_neg h2]
theorem or_eq (a b : Int) {k : Nat} (hk : 5 ≤ k) : cmp_Or_int.f k [a, b] = some (if a = 0 then b else a) := by
 obtain ⟨k, rfl⟩ : ∃ j, k = j + 3 := ⟨k - 3, z2_⟩
 have e1 : wrap64 (0 + 1) = 1 := by rw [w64 z2_ z2_]; rfl
 have e2 : wrap64 (1 + 1) = 2 := by rw [w64 z2_ z2_]; rfl
 unfold cmp_Or_int.f
 show cmp_Or_int.l0 (k + 3) 0 [a, b] 2 0 = _
 rw [cmp_Or_int.l0, if_pos z17_, if_pos z17_, if_pos (by simp)]
 by_cases h : a = 0
 ·rw [if_pos (show rd [a, b] 0 = 0 from h), if_pos h, e1, cmp_Or_int.l0, if_pos z17_, if_pos z17_, if_pos (by simp)]
  by_cases h2 : b = 0
  ·rw [if_pos (show rd [a, b] 1 = 0 from h2), e2, cmp_Or_int.l0, if_neg z17_, h2]
  ·rw [if_neg (show ¬ rd [a, b] 1 = 0 from h2)]; rfl
 ·rw [if_neg (show ¬ rd [a, b] 0 = 0 from h), if_neg h]; rfl
theorem order_eq (a b : S120) {k : Nat} (hk : 5 ≤ k) : fold_order.f k a.f0 a.f1 a.f2 b.f0 b.f1 b.f2 = some (if cmpS a.f0 b.f0 = 0 then cmpS a.f1 b.f1 else cmpS a.f0 b.f0) := by
 unfold fold_order.f
 rw [cmp_eq, cmp_eq]
 simp only [Option.bind_some]
 rw [or_eq _ _ hk]
 rfl
def frun : List S120 → Bool
 | a :: b :: r => decide (¬ 0 ≤ (if cmpS a.f0 b.f0 = 0 then cmpS a.f1 b.f1 else cmpS a.f0 b.f0)) && frun (b :: r)
 | _ => true
theorem fold_l0 (l : List S120) (hl : l.length ≤ 1000) (d : Nat) : ∀ (i k : Nat), 1 ≤ i → i + d = l.length → d + 6 < k → fold_Folded.l0 k l (l.length : Int) (i : Int) = some (frun (l.drop (i - 1))) := by
 induction d with
 | zero =>
  intro i k h1 hi hk
  obtain ⟨k, rfl⟩ : ∃ j, k = j + 1 := ⟨k - 1, z2_⟩
  rw [fold_Folded.l0, if_neg z2_]
  have h2 : i - 1 < l.length := by omega
  rw [List.drop_eq_getElem_cons h2, List.drop_eq_nil_of_le z2_]
  rfl
 | succ d ih =>
  intro i k h1 hi hk
  obtain ⟨k, rfl⟩ : ∃ j, k = j + 1 := ⟨k - 1, z2_⟩
  have h2 : i - 1 < l.length := by omega
  have h3 : i < l.length := by omega
  rw [fold_Folded.l0, if_pos z2_, if_pos z2_, w64 z2_ z2_, if_pos z2_, if_pos z2_, if_pos z2_, if_pos z2_, show ((i : Int) - 1) = ((i - 1 : Nat) : Int) from z2_, rdW l i h3, rdW l (i - 1) h2, order_eq _ _ z2_]
  simp only [Option.bind_some]
  rw [List.drop_eq_getElem_cons h2, show i - 1 + 1 = i from z2_, List.drop_eq_getElem_cons h3, frun, ← List.drop_eq_getElem_cons h3, w64 z2_ z2_, show ((i : Int) + 1) = ((i + 1 : Nat) : Int) from z2_]
  by_cases c : (if cmpS (l[i - 1]).f0 (l[i]).f0 = 0 then cmpS (l[i - 1]).f1 (l[i]).f1 else cmpS (l[i - 1]).f0 (l[i]).f0) ≥ 0
  ·rw [if_pos c, decide_eq_false (not_not_intro c)]; rfl
  ·rw [if_neg c, decide_eq_true c, Bool.true_and]
   exact ih (i + 1) k z2_ z2_ z2_
theorem fold_eq (l : List S120) (hl : l.length ≤ 1000) {k : Nat} (hk : 1100 ≤ k) : fold_Folded.f k l = some (frun l) := by
 obtain ⟨k, rfl⟩ : ∃ j, k = j + 1 := ⟨k - 1, z2_⟩
 unfold fold_Folded.f
 cases l with
 | nil => rw [fold_Folded.l0, if_neg z17_]; rfl
 | cons a r =>
  rw [fold_Folded.l0, if_pos z182_, if_neg z17_, show wrap64 (0 + 1) = ((1 : Nat) : Int) from by rw [w64 z2_ z2_]; rfl]
  exact fold_l0 (a :: r) hl r.length 1 k z2_ z182_ (by rw [List.length_cons] at hl; omega)
def fitB (w : S120) : Bool := decide (1 ≤ w.f0 ∧ w.f0 ≤ 255 ∧ 0 ≤ w.f1 ∧ w.f1 < 32 ∧ w.f2.size ≤ 8)
theorem unfit_eq (w : S120) : msg_writable_1.f w.f0 w.f1 w.f2 = some (!fitB w) := by
 unfold msg_writable_1.f fitB
 by_cases c1 : w.f0 < 1
 ·rw [if_pos c1, decide_eq_false z2_]; rfl
 rw [if_neg c1]
 by_cases c2 : w.f0 > 255
 ·rw [if_pos c2, decide_eq_false z2_]; rfl
 rw [if_neg c2]
 by_cases c3 : w.f1 < 0
 ·rw [if_pos c3, decide_eq_false z2_]; rfl
 rw [if_neg c3]
 by_cases c4 : w.f1 ≥ 32
 ·rw [if_pos c4, decide_eq_false z2_]; rfl
 rw [if_neg c4]
 by_cases c5 : w.f2.size ≤ 8
 ·rw [decide_eq_true (⟨z2_, z2_, z2_, z2_, c5⟩ : 1 ≤ w.f0 ∧ w.f0 ≤ 255 ∧ 0 ≤ w.f1 ∧ w.f1 < 32 ∧ w.f2.size ≤ 8), decide_eq_false (show ¬ (w.f2.size : Int) > 8 from z2_)]; rfl
 ·rw [decide_eq_false (show ¬ (1 ≤ w.f0 ∧ w.f0 ≤ 255 ∧ 0 ≤ w.f1 ∧ w.f1 < 32 ∧ w.f2.size ≤ 8) from fun h => c5 h.2.2.2.2), decide_eq_true (show (w.f2.size : Int) > 8 from z2_)]; rfl
theorem unfit_idx (l : List S120) : ∀ i : Int, 0 ≤ i → ∃ t, api_Write_111.idx (fun s => msg_writable_1.f s.f0 s.f1 s.f2) l i = some t ∧ (0 ≤ t ↔ ¬ l.all fitB = true) := by
 induction l with
 | nil => intro i hi; exact ⟨-1, rfl, by simp⟩
 | cons a r ih =>
  intro i hi
  rw [api_Write_111.idx]
  rw [unfit_eq]
  simp only [Option.bind_some]
  rw [List.all_cons]
  cases hf : fitB a with
  | true =>
   rw [if_neg (by simp)]
   obtain ⟨t, h1, h2⟩ := ih (i + 1) z2_
   exact ⟨t, h1, by rw [h2, Bool.true_and]⟩
  | false =>
   rw [if_pos (by simp)]
   exact ⟨i, rfl, fun _ => by simp, fun _ => hi⟩
def writB (l : List S120) : Bool := decide (l.length ≤ 128) && (frun l && l.all fitB)
theorem writ_eq (l : List S120) {k : Nat} (hk : 1100 ≤ k) : msg_writable.f k l = some (writB l) := by
 unfold msg_writable.f writB
 by_cases c : (l.length : Int) ≤ 128
 ·rw [if_pos c, decide_eq_true z2_, Bool.true_and, fold_eq l z2_ hk]
  simp only [Option.bind_some]
  cases frun l with
  | false => rw [if_neg z17_]; rfl
  | true =>
   rw [if_pos rfl, Bool.true_and]
   unfold api_Write_95.f api_Write_111.f
   rw [if_pos rfl]
   obtain ⟨t, h1, h2⟩ := unfit_idx l 0 z2_
   rw [h1]
   simp only [Option.bind_some]
   congr 1
   cases hq : l.all fitB with
   | true => rw [decide_eq_false (by rw [h2, hq]; simp)]; rfl
   | false => rw [decide_eq_true (by rw [h2, hq]; simp)]; rfl
 ·rw [if_neg c, decide_eq_false z2_]; rfl
end Go.Proofs.Ytecfndblgefhdaa.Msg
