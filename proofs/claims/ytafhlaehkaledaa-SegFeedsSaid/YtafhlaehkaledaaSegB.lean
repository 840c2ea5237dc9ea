/- The document's pieces. -/
import Derived.Test.YtafhlaehkaledaaPx1
import Derived.Test.YtafhlaehkaledaaPx2
import Derived.Test.YtafhlaehkaledaaSeg
set_option linter.unusedVariables false
set_option linter.unusedSimpArgs false
namespace Go.Proofs.Ytafhlaehkaledaa.Seg
open Go.RowKit Go.Proofs.Ytafhlaehkaledaa.P Go.Proofs.Ytafhlaehkaledaa.Core Go.Proofs.Ytafhlaehkaledaa.Oct Go.Proofs.YtafhlaehkaledaaW.PrintWords Go.Proofs.YtafhlaehkaledaaW.PrintLast Go.Proofs.YtafhlaehkaledaaW.PrintMore

theorem two_eq (n : Nat) (h : n ≤ 65535) : counterfoilref14_two.f (n : Int) = some (mk (digs n 2)) := by
  unfold counterfoilref14_two.f
  rw [Int.tdiv_eq_ediv_of_nonneg (by omega), Int.tmod_eq_emod_of_nonneg (by omega), wrap64_id (by omega) (by omega), strOfNums_mk]
  congr 1
  rw [mk_inj]
  have e1 : ((n : Int) / 256 % 256).toNat = n / 256 := by omega
  have e2 : ((n : Int) % 256 % 256).toNat = n % 256 := by omega
  simp [digs, e1, e2]
  apply UInt8.toNat_inj.1
  simp
  omega
def partsS (s : ByteArray) (n i : Nat) : List ByteArray := (List.range i).map (cutAt s n)
theorem partsS_length (s : ByteArray) (n i : Nat) : (partsS s n i).length = i := by simp [partsS]
theorem partsS_succ (s : ByteArray) (n i : Nat) : partsS s n (i + 1) = partsS s n i ++ [cutAt s n i] := by simp [partsS, List.range_succ]
theorem partsS_rd (s : ByteArray) (n m i : Nat) (h : i < m) : rdOf ByteArray.empty (partsS s n m) (i : Int) = cutAt s n i := by
  simp [rdOf, partsS, h]
theorem l1_step0 (x6 x7 : List ByteArray) (i : Int) (k : Nat) (a b : ByteArray) (hlt : i < (x6.length : Int)) (h1 : counterfoilref14_two.f i = some a) (h2 : counterfoilref14_two.f (x6.length : Int) = some b) (h3 : a.size + b.size ≤ 9223372036854775807) (h4 : 0 ≤ i)
    (h5 : (a ++ b).size + (rdOf ByteArray.empty x6 i).size ≤ 9223372036854775807) (h6 : x7.length < 8796093022208) : counterfoilref14_Pieces.l1 (k + 1) x6 x7 i = counterfoilref14_Pieces.l1 k x6 (x7 ++ [(a ++ b) ++ rdOf ByteArray.empty x6 i]) (wrap64 (i + 1)) := by
  rw [counterfoilref14_Pieces.l1, if_pos hlt, h1]
  simp only [Option.bind_some]
  rw [h2]
  simp only [Option.bind_some]
  rw [if_pos h3, if_pos h4, if_pos h5, if_pos h6]
theorem rpieces_l1 (s : ByteArray) (n c : Nat) (hz : s.size ≤ 16384) (hc : c ≤ 65535) (d : Nat) : ∀ (i k : Nat), i + d = c → d < k → counterfoilref14_Pieces.l1 k (partsS s n c) (piecesS s n c i) (i : Int) = some (piecesS s n c c, true) := by
  induction d with
  | zero =>
    intro i k hi hk
    obtain ⟨k, rfl⟩ : ∃ m, k = m + 1 := ⟨k - 1, by omega⟩
    rw [counterfoilref14_Pieces.l1, if_neg (by rw [partsS_length]; omega), show i = c from by omega]
  | succ d ih =>
    intro i k hi hk
    obtain ⟨k, rfl⟩ : ∃ m, k = m + 1 := ⟨k - 1, by omega⟩
    have e4 : wrap64 ((i : Int) + 1) = ((i + 1 : Nat) : Int) := by rw [wrap64_id (by omega) (by omega)]; omega
    have hs : (cutAt s n i).size ≤ s.size := by rw [cutAt_size]; omega
    have h1 : counterfoilref14_two.f (i : Int) = some (mk (digs i 2)) := two_eq i (by omega)
    have h2 : counterfoilref14_two.f ((partsS s n c).length : Int) = some (mk (digs c 2)) := by rw [partsS_length]; exact two_eq c hc
    have hlt : (i : Int) < ((partsS s n c).length : Int) := by rw [partsS_length]; omega
    have h3 : (mk (digs i 2)).size + (mk (digs c 2)).size ≤ 9223372036854775807 := by rw [mk_size, mk_size, digs_length, digs_length]; omega
    have h5 : (mk (digs i 2) ++ mk (digs c 2)).size + (rdOf ByteArray.empty (partsS s n c) (i : Int)).size ≤ 9223372036854775807 := by
      rw [partsS_rd s n c i (by omega), ByteArray.size_append, mk_size, mk_size, digs_length, digs_length]; omega
    have h6 : (piecesS s n c i).length < 8796093022208 := by rw [piecesS_length]; omega
    rw [l1_step0 (partsS s n c) (piecesS s n c i) i k _ _ hlt h1 h2 h3 (Int.natCast_nonneg _) h5 h6, partsS_rd s n c i (by omega), e4, ← pieceS_def', ← piecesS_succ]
    exact ih (i + 1) k (by omega) (by omega)
theorem rest_size (s : ByteArray) (a : Nat) : (s.extract a s.size).size = s.size - a := by rw [ByteArray.size_extract]; omega
theorem l0_step0 (x0 : ByteArray) (n : Int) (x6 : List ByteArray) (k : Nat) (h1 : (x0.size : Int) > n) (h2 : 0 ≤ n) (h3 : n ≤ (x0.size : Int)) (h4 : x6.length < 8796093022208) :
    counterfoilref14_Pieces.l0 (k + 1) x0 n x6 = counterfoilref14_Pieces.l0 k (x0.extract n.toNat x0.size) n (x6 ++ [x0.extract 0 n.toNat]) := by
  rw [counterfoilref14_Pieces.l0, if_pos h1, if_pos h2, if_pos h3, if_pos h4]
theorem l0_end0 (x0 : ByteArray) (n : Int) (x6 : List ByteArray) (k : Nat) (h1 : ¬ (x0.size : Int) > n) (h4 : x6.length < 8796093022208) (h5 : ¬ ((x6 ++ [x0]).length : Int) > 65535) :
    counterfoilref14_Pieces.l0 (k + 1) x0 n x6 = counterfoilref14_Pieces.l1 k (x6 ++ [x0]) [] 0 := by
  rw [counterfoilref14_Pieces.l0, if_neg h1, if_pos h4]
  simp only [Option.bind_some]
  rw [if_neg h5]
theorem rpieces_l0 (s : ByteArray) (n c : Nat) (hz : s.size ≤ 16384) (hn1 : 1 ≤ n) (hcc : c = cnt s.size n) (d : Nat) : ∀ (i k : Nat), i + d + 1 = c → 20000 + d < k →
    counterfoilref14_Pieces.l0 k (s.extract (i * n) s.size) n (partsS s n i) = some (piecesS s n c c, true) := by
  have hc : c ≤ 16385 := by rw [hcc]; exact Nat.le_trans (cnt_le _ _ hn1) (by omega)
  induction d with
  | zero =>
    intro i k hi hk
    obtain ⟨k, rfl⟩ : ∃ m, k = m + 1 := ⟨k - 1, by omega⟩
    have he : s.size ≤ (i + 1) * n := by have := cnt_end (z := s.size) hn1; rw [← hcc, ← hi] at this; exact this
    have hm : (i + 1) * n = i * n + n := Nat.succ_mul i n
    have hx : s.extract (i * n) s.size = cutAt s n i := by unfold cutAt; rw [Nat.min_eq_left he]
    have h1 : ¬ ((s.extract (i * n) s.size).size : Int) > (n : Int) := by rw [rest_size]; omega
    have h4 : (partsS s n i).length < 8796093022208 := by rw [partsS_length]; omega
    have h5 : ¬ ((partsS s n i ++ [s.extract (i * n) s.size]).length : Int) > 65535 := by rw [List.length_append, partsS_length, List.length_singleton]; omega
    rw [l0_end0 _ _ _ k h1 h4 h5, hx, ← partsS_succ, show i + 1 = c from by omega]
    have := rpieces_l1 s n c hz (by omega) c 0 k (by omega) (by omega)
    simpa [piecesS] using this
  | succ d ih =>
    intro i k hi hk
    obtain ⟨k, rfl⟩ : ∃ m, k = m + 1 := ⟨k - 1, by omega⟩
    have he : (i + 1) * n < s.size := (cnt_lt_iff hn1).1 (by omega)
    have hm : (i + 1) * n = i * n + n := Nat.succ_mul i n
    have h1 : ((s.extract (i * n) s.size).size : Int) > (n : Int) := by rw [rest_size]; omega
    have h4 : (partsS s n i).length < 8796093022208 := by rw [partsS_length]; omega
    rw [l0_step0 _ _ _ k h1 (Int.natCast_nonneg _) (by omega) h4, Int.toNat_natCast, ByteArray.extract_extract, ByteArray.extract_extract, rest_size]
    have e1 : min (i * n + (s.size - i * n)) s.size = s.size := by omega
    have e2 : min (i * n + n) s.size = min s.size ((i + 1) * n) := by omega
    rw [e1, e2, Nat.add_zero, ← hm]
    have := ih (i + 1) k (by omega) (by omega)
    rw [partsS_succ] at this
    exact this
theorem pieces_eq (s : ByteArray) (n : Nat) (hz : s.size ≤ 16384) (hn1 : 1 ≤ n) {k : Nat} (hk : 70000 ≤ k) : counterfoilref14_Pieces.f k s (n : Int) = some (piecesS s n (cnt s.size n) (cnt s.size n), true) := by
  unfold counterfoilref14_Pieces.f
  have hc : cnt s.size n ≤ 16385 := Nat.le_trans (cnt_le _ _ hn1) (by omega)
  have hp := cnt_pos s.size n
  have := rpieces_l0 s n (cnt s.size n) hz hn1 rfl (cnt s.size n - 1) 0 k (by omega) (by omega)
  simpa [partsS] using this
/-- The text, as far as it has been seen. -/
theorem upto (s : ByteArray) (a b : Nat) (h : a ≤ b) : s.extract 0 a ++ s.extract a b = s.extract 0 b := by
  apply ba_ext
  rw [ByteArray.data_append, Array.toList_append, data_extract_list, data_extract_list, data_extract_list, List.drop_zero, List.drop_zero]
  have : (s.data.toList.take b).take a = s.data.toList.take a := by rw [List.take_take, Nat.min_eq_left h]
  rw [← this, List.take_append_drop]
theorem piece_tail (s : ByteArray) (n c i : Nat) : (pieceS s n c i).extract 4 (pieceS s n c i).size = cutAt s n i := by
  have hz := pieceS_size s n c i
  rw [hz]
  unfold pieceS
  exact ByteArray.extract_append_eq_right (by rw [ByteArray.size_append, mk_size, mk_size, digs_length, digs_length]) (by rw [ByteArray.size_append, mk_size, mk_size, digs_length, digs_length])
end Go.Proofs.Ytafhlaehkaledaa.Seg
