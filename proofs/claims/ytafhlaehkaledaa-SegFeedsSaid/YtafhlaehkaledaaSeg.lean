/- What seg's functions answer, as plain functions. -/
import Derived.Test.YtafhlaehkaledaaPx1
import Derived.Test.YtafhlaehkaledaaOctB
import Derived.Test.YtafhlaehkaledaaSmall
import Derived.KernelRfl
set_option linter.unusedVariables false
set_option linter.unusedSimpArgs false
namespace Go.Proofs.Ytafhlaehkaledaa.Seg
open Go.RowKit Go.Proofs.Ytafhlaehkaledaa.P Go.Proofs.Ytafhlaehkaledaa.Core Go.Proofs.Ytafhlaehkaledaa.Oct Go.Proofs.YtafhlaehkaledaaW.PrintWords Go.Proofs.YtafhlaehkaledaaW.PrintLast Go.Proofs.YtafhlaehkaledaaW.PrintMore

def cnt (z n : Nat) : Nat := max 1 ((z + n - 1) / n)
theorem cnt_pos (z n : Nat) : 1 ≤ cnt z n := by unfold cnt; omega
theorem cnt_le (z n : Nat) (hn : 1 ≤ n) : cnt z n ≤ z + 1 := by
  unfold cnt
  have h1 : (z + n - 1) / n ≤ z + 1 := by
    have h2 : (z + n - 1) / n < z + 2 := by
      rw [Nat.div_lt_iff_lt_mul (by omega)]
      have h3 : (z + 2) * n = z * n + 2 * n := by rw [Nat.add_mul]
      have h4 : z * 1 ≤ z * n := Nat.mul_le_mul_left z hn
      omega
    omega
  omega
theorem cnt_lt_iff {z n i : Nat} (hn : 1 ≤ n) : i + 1 < cnt z n ↔ (i + 1) * n < z := by
  have h1 : i + 2 ≤ (z + n - 1) / n ↔ (i + 2) * n ≤ z + n - 1 := Nat.le_div_iff_mul_le (by omega)
  have h2 : (i + 2) * n = (i + 1) * n + n := by rw [show i + 2 = (i + 1) + 1 from rfl, Nat.succ_mul]
  unfold cnt
  rw [h2] at h1
  generalize (i + 1) * n = p at h1 ⊢
  generalize (z + n - 1) / n = q at h1 ⊢
  omega
theorem cnt_at {z n i : Nat} (hn : 1 ≤ n) (h : i < cnt z n) : i * n ≤ z := by
  cases i with
  | zero => simp
  | succ i => exact Nat.le_of_lt ((cnt_lt_iff hn).1 h)
theorem cnt_end {z n : Nat} (hn : 1 ≤ n) : z ≤ cnt z n * n := by
  have h := cnt_pos z n
  obtain ⟨m, hm⟩ : ∃ m, cnt z n = m + 1 := ⟨cnt z n - 1, by omega⟩
  have := (cnt_lt_iff (z := z) (n := n) (i := m) hn)
  rw [hm]
  by_cases hh : (m + 1) * n < z
  · have := this.2 hh; omega
  · omega
def cutAt (s : ByteArray) (n i : Nat) : ByteArray := s.extract (i * n) (min s.size ((i + 1) * n))
theorem cutAt_size (s : ByteArray) (n i : Nat) : (cutAt s n i).size = min s.size ((i + 1) * n) - i * n := by
  unfold cutAt; rw [ByteArray.size_extract]; omega
def pieceS (s : ByteArray) (n c i : Nat) : ByteArray := mk (digs i 2) ++ mk (digs c 2) ++ cutAt s n i
theorem pieceS_def (s : ByteArray) (n c i : Nat) : pieceS s n c i = mk (digs i 2) ++ mk (digs c 2) ++ s.extract (i * n) (min s.size ((i + 1) * n)) := rfl
theorem pieceS_def' (s : ByteArray) (n c i : Nat) : pieceS s n c i = mk (digs i 2) ++ mk (digs c 2) ++ cutAt s n i := rfl
theorem pieceS_size (s : ByteArray) (n c i : Nat) : (pieceS s n c i).size = 4 + (cutAt s n i).size := by
  unfold pieceS; rw [ByteArray.size_append, ByteArray.size_append, mk_size, mk_size, digs_length, digs_length]
def piecesS (s : ByteArray) (n c i : Nat) : List ByteArray := (List.range i).map (pieceS s n c)
theorem piecesS_length (s : ByteArray) (n c i : Nat) : (piecesS s n c i).length = i := by simp [piecesS]
theorem piecesS_succ (s : ByteArray) (n c i : Nat) : piecesS s n c (i + 1) = piecesS s n c i ++ [pieceS s n c i] := by simp [piecesS, List.range_succ]
theorem piecesS_rd (s : ByteArray) (n c m i : Nat) (h : i < m) : rdOf ByteArray.empty (piecesS s n c m) (i : Int) = pieceS s n c i := by
  simp [rdOf, piecesS, h]
def cutS (s : ByteArray) (n : Int) : List ByteArray × Int :=
  if n < 1 ∨ 508 < n then ([], 1) else if 65535 < cnt s.size n.toNat then ([], 5) else (piecesS s n.toNat (cnt s.size n.toNat) (cnt s.size n.toNat), 0)
theorem mx_cnt (z n : Nat) (hz : z ≤ 140737488351232) (h1 : 1 ≤ n) (h2 : n ≤ 508) : mx 1 (wrap64 (Int.tdiv (wrap64 ((wrap64 ((z : Int) + (n : Int))) - 1)) (n : Int))) = ((cnt z n : Nat) : Int) := by
  have e1 : wrap64 ((z : Int) + (n : Int)) = ((z + n : Nat) : Int) := by rw [wrap64_id (by omega) (by omega)]; omega
  have e2 : wrap64 (((z + n : Nat) : Int) - 1) = ((z + n - 1 : Nat) : Int) := by rw [wrap64_id (by omega) (by omega)]; omega
  have e3 : Int.tdiv ((z + n - 1 : Nat) : Int) (n : Int) = (((z + n - 1) / n : Nat) : Int) := by
    rw [Int.tdiv_eq_ediv_of_nonneg (by omega)]; exact (Int.natCast_ediv _ _).symm
  have h3 : (z + n - 1) / n ≤ z + n - 1 := Nat.div_le_self _ _
  rw [e1, e2, e3]
  unfold cnt
  generalize (z + n - 1) / n = q at h3 ⊢
  rw [wrap64_id (by omega) (by omega)]
  unfold mx
  split <;> omega
theorem put_two (i : Nat) (h : i ≤ 65535) {k : Nat} (hk : 12 ≤ k) : octet_Put.f k (i : Int) 2 = some (mk (digs i 2), 0) := by
  rw [put_eq (by rw [wf_i64]; omega) (by decide) hk]
  have := putS_of (n := i) (w := 2) (by omega) (by omega) (by omega)
  rw [show ((2 : Nat) : Int) = 2 from rfl] at this
  rw [this]
theorem cut_args (z n i : Nat) (hi : i < 65535) (hn : n ≤ 508) : wrap64 ((i : Int) * (n : Int)) = ((i * n : Nat) : Int) ∧ wrap64 ((i : Int) + 1) = ((i + 1 : Nat) : Int) ∧ wrap64 (((i + 1 : Nat) : Int) * (n : Int)) = (((i + 1) * n : Nat) : Int) ∧
    mn (z : Int) (((i + 1) * n : Nat) : Int) = ((min z ((i + 1) * n) : Nat) : Int) := by
  have hp : i * n ≤ 33291780 := Nat.le_trans (Nat.mul_le_mul (show i ≤ 65535 by omega) hn) (by decide)
  have hp2 : (i + 1) * n ≤ 33291780 := Nat.le_trans (Nat.mul_le_mul (show i + 1 ≤ 65535 by omega) hn) (by decide)
  rw [← Int.natCast_mul, ← Int.natCast_mul]
  generalize (i + 1) * n = p at *
  generalize i * n = q at *
  refine ⟨wrap64_id (by omega) (by omega), ?_, wrap64_id (by omega) (by omega), ?_⟩
  · rw [wrap64_id (by omega) (by omega)]; omega
  · unfold mn
    split <;> omega
theorem cut_step0 (s x7 : ByteArray) (n i c : Int) (L : List ByteArray) (k : Nat) (t1 : ByteArray) (t2 : Int) (hlt : i < c) (hput : octet_Put.f k i 2 = some (t1, t2)) (q p m i2 : Int) (e4 : wrap64 (i + 1) = i2) (e1 : wrap64 (i * n) = q) (e2 : wrap64 (i2 * n) = p) (e3 : mn (s.size : Int) p = m)
    (h9 : t1.size + x7.size ≤ 9223372036854775807) (h6 : 0 ≤ q) (h7 : q ≤ m) (h8 : m ≤ (s.size : Int)) (h10 : (t1 ++ x7).size + (s.extract q.toNat m.toNat).size ≤ 9223372036854775807) (h11 : L.length < 8796093022208) :
    seg_Cut.l0 (k + 1) s n x7 L c i = seg_Cut.l0 k s n x7 (L ++ [(t1 ++ x7) ++ s.extract q.toNat m.toNat]) c i2 := by
  subst e3
  subst e2
  subst e1
  subst e4
  rw [seg_Cut.l0, if_pos hlt, hput]
  simp only [Option.bind_some]
  rw [if_pos h9, if_pos h6, if_pos h7, if_pos h8, if_pos h10, if_pos h11]
theorem cut_step (s : ByteArray) (n c i : Nat) (hz : s.size ≤ 140737488351232) (hn1 : 1 ≤ n) (hn : n ≤ 508) (hc : c ≤ 65535) (hi : i < c) (ha : i * n ≤ s.size) (L : List ByteArray) (hL : L.length = i) (k : Nat) (hk : 12 ≤ k) :
    seg_Cut.l0 (k + 1) s n (mk (digs c 2)) L (c : Int) (i : Int) = seg_Cut.l0 k s n (mk (digs c 2)) (L ++ [pieceS s n c i]) (c : Int) ((i + 1 : Nat) : Int) := by
  have hi2 : i ≤ 65535 := by omega
  have hs : (cutAt s n i).size ≤ s.size := by rw [cutAt_size]; omega
  have h5 : i * n ≤ (i + 1) * n := Nat.mul_le_mul_right _ (by omega)
  have h7 : ((i * n : Nat) : Int) ≤ ((min s.size ((i + 1) * n) : Nat) : Int) := by omega
  have h8 : ((min s.size ((i + 1) * n) : Nat) : Int) ≤ (s.size : Int) := by omega
  have h11 : (i : Int) < (c : Int) := by omega
  have h12 : L.length < 8796093022208 := by omega
  obtain ⟨e1, e4, e2, e3⟩ := cut_args s.size n i (by omega) hn
  have h9 : (mk (digs i 2)).size + (mk (digs c 2)).size ≤ 9223372036854775807 := by rw [mk_size, mk_size, digs_length, digs_length]; omega
  have h10 : (mk (digs i 2) ++ mk (digs c 2)).size + (s.extract (((i * n : Nat) : Int)).toNat (((min s.size ((i + 1) * n) : Nat) : Int)).toNat).size ≤ 9223372036854775807 := by
    have : (s.extract (i * n) (min s.size ((i + 1) * n))).size ≤ s.size := hs
    rw [ByteArray.size_append, mk_size, mk_size, digs_length, digs_length, Int.toNat_natCast, Int.toNat_natCast]
    omega
  have h := cut_step0 s (mk (digs c 2)) n i c L k (mk (digs i 2)) 0 h11 (put_two i hi2 hk) ((i * n : Nat) : Int) (((i + 1) * n : Nat) : Int) ((min s.size ((i + 1) * n) : Nat) : Int) ((i + 1 : Nat) : Int) e4 e1 e2 e3 h9 (Int.natCast_nonneg _) h7 h8 h10 h12
  rw [Int.toNat_natCast, Int.toNat_natCast] at h
  rw [pieceS_def]
  exact h
theorem cut_l0 (s : ByteArray) (n c : Nat) (hz : s.size ≤ 140737488351232) (hn1 : 1 ≤ n) (hn : n ≤ 508) (hc : c ≤ 65535) (hcc : c = cnt s.size n) (d : Nat) : ∀ (i k : Nat), i + d = c → 20 + d < k →
    seg_Cut.l0 k s n (mk (digs c 2)) (piecesS s n c i) (c : Int) (i : Int) = some (piecesS s n c c, 0) := by
  induction d with
  | zero =>
    intro i k hi hk
    obtain ⟨k, rfl⟩ : ∃ m, k = m + 1 := ⟨k - 1, by omega⟩
    rw [seg_Cut.l0, if_neg (by omega), show i = c from by omega]
  | succ d ih =>
    intro i k hi hk
    obtain ⟨k, rfl⟩ : ∃ m, k = m + 1 := ⟨k - 1, by omega⟩
    rw [cut_step s n c i hz hn1 hn hc (by omega) (cnt_at hn1 (by omega)) _ (piecesS_length _ _ _ _) k (by omega), ← piecesS_succ]
    exact ih (i + 1) k (by omega) (by omega)
theorem cut_eq (s : ByteArray) (n : Int) (hz : s.size ≤ 140737488351232) {k : Nat} (hk : 70000 ≤ k) : seg_Cut.f k s n = some (cutS s n) := by
  obtain ⟨k, rfl⟩ : ∃ m, k = m + 1 := ⟨k - 1, by omega⟩
  unfold seg_Cut.f cutS
  by_cases h1 : n < 1
  · rw [if_pos h1, seg_Cut.j0, if_pos rfl, if_pos (Or.inl h1)]
  · rw [if_neg h1, seg_Cut.j0]
    by_cases h2 : n > 508
    · rw [decide_eq_true h2, if_pos rfl, if_pos (Or.inr h2)]
    · obtain ⟨n, rfl⟩ := Int.eq_ofNat_of_zero_le (a := n) (by omega)
      rw [decide_eq_false h2, if_neg (by decide), if_neg (show ¬ ((n : Int) = 0) by omega), if_neg (show ¬ ((n : Int) < 1 ∨ 508 < (n : Int)) by omega), mx_cnt s.size n hz (by omega) (by omega)]
      simp only [Int.toNat_natCast]
      by_cases h3 : 65535 < cnt s.size n
      · rw [if_pos (by omega), if_pos h3]
      · rw [if_neg (by omega), if_neg h3, put_two _ (by omega) (by omega)]
        simp only [Option.bind_some]
        rw [if_pos (by omega), if_pos (by omega)]
        exact cut_l0 s n _ hz (by omega) (by omega) (by omega) rfl (cnt s.size n) 0 k (by omega) (by omega)
theorem awake_cut : cutS ⟨#[97, 98, 99]⟩ 2 = ([mk [0, 0, 0, 2, 97, 98], mk [0, 1, 0, 2, 99]], 0) := by kernel_rfl
theorem awake_eq {k : Nat} (hk : 70000 ≤ k) : counterfoillaw14_awake.f k = some true := by
  unfold counterfoillaw14_awake.f
  rw [cut_eq _ 2 (by decide) hk, awake_cut]
  simp [rdOf, ByteArray.toList_eq, mk]
end Go.Proofs.Ytafhlaehkaledaa.Seg
