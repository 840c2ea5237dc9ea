import Derived.Test.YtgfmdfgibkkfaaaKaPx1
import Derived.Test.YtgfmdfgibkkfaaaKaPx3
import Derived.Test.YtgfmdfgibkkfaaaKaCore
import Derived.Laws.BitsLemmas
set_option linter.unusedVariables false
set_option linter.unusedSimpArgs false
namespace Go.Proofs.Ytgfmdfgibkkfaaa.Oct
open Go.RowKit Go.Proofs.Ytgfmdfgibkkfaaa.P Go.Proofs.Ytgfmdfgibkkfaaa.Core Go.Proofs.YtgfmdfgibkkfaaaW.PrintWords Go.Proofs.YtgfmdfgibkkfaaaW.PrintLast Go.Proofs.YtgfmdfgibkkfaaaW.PrintMore
theorem wf_i64 {n : Int} : (Lit.int .i64 n).wf = true ↔ -9223372036854775808 ≤ n ∧ n ≤ 9223372036854775807 := by
  have e0 : IntKind.i64.min = -9223372036854775808 := by decide
  have e1 : IntKind.i64.max = 9223372036854775807 := by decide
  simp [Lit.wf, e0, e1]
theorem wrap64_id {n : Int} (h0 : -9223372036854775808 ≤ n) (h1 : n ≤ 9223372036854775807) : wrap64 n = n := by unfold wrap64; omega
theorem pow_cast (w : Nat) : ((256 ^ w : Nat) : Int) = (256 : Int) ^ w := Int.natCast_pow 256 w
def putS (n w : Int) : ByteArray × Int :=
  if w < 1 ∨ 8 < w then (mk [], 1) else if n < 0 ∨ (256 : Int) ^ w.toNat ≤ n then (mk [], 10) else (mk (digs n.toNat w.toNat), 0)
def getS (s : ByteArray) : Int × Int :=
  if s.size < 1 ∨ 8 < s.size then (0, 1) else if 9223372036854775807 < num s.data.toList then (0, 10) else ((num s.data.toList : Int), 0)
def numberS (s : ByteArray) (w : Int) : Int × ByteArray × Int :=
  if w < 1 ∨ 8 < w then (0, mk [], 1) else if (s.size : Int) < w then (0, mk [], 2) else
    if (getS (s.extract 0 w.toNat)).2 = 0 then ((getS (s.extract 0 w.toNat)).1, s.extract w.toNat s.size, 0) else (0, mk [], (getS (s.extract 0 w.toNat)).2)
theorem num_take_succ (l : List UInt8) (i : Nat) (h : i < l.length) : num (l.take (i + 1)) = 256 * num (l.take i) + (l[i]).toNat := by
  rw [List.take_succ_eq_append_getElem h, num_snoc]
def pre (n w i : Nat) : List Int := (List.range w).map fun j => if j < i then ((n / 256 ^ (w - 1 - j) % 256 : Nat) : Int) else 0
theorem pre_length (n w i : Nat) : (pre n w i).length = w := by simp [pre]
theorem pre_zero (n w : Nat) : pre n w 0 = List.replicate w 0 := by
  apply List.ext_getElem?
  intro i
  by_cases h : i < w <;> simp [pre, h, List.getElem?_replicate]
theorem pre_set (n w i : Nat) (h : i < w) : (pre n w i).set i ((n / 256 ^ (w - 1 - i) % 256 : Nat) : Int) = pre n w (i + 1) := by
  apply List.ext_getElem (by simp [pre])
  intro j h1 h2
  simp only [List.length_set, pre_length] at h1
  rw [List.getElem_set]
  simp only [pre, List.getElem_map, List.getElem_range]
  by_cases hij : i = j
  · subst hij; simp
  · rw [if_neg hij]
    by_cases hj : j < i
    · rw [if_pos hj, if_pos (by omega)]
    · rw [if_neg hj, if_neg (by omega)]
theorem pre_full (n w : Nat) : strOfNums (pre n w w) = mk (digs n w) := by
  rw [strOfNums_mk, mk_inj]
  apply List.ext_getElem?
  intro i
  by_cases h : i < w
  · rw [digs_get n w i h]
    simp only [pre, List.map_map, List.getElem?_map]
    rw [List.getElem?_range h]
    simp [h]
    apply UInt8.toNat_inj.1
    rw [show (((n : Int) / 256 ^ (w - 1 - i) % 256).toNat) = n / 256 ^ (w - 1 - i) % 256 from by
      rw [show ((n : Int) / 256 ^ (w - 1 - i) % 256) = ((n / 256 ^ (w - 1 - i) % 256 : Nat) : Int) from by simp]
      exact Int.toNat_natCast _]
    simp
  · rw [List.getElem?_eq_none (by simp [pre]; omega), List.getElem?_eq_none (by rw [digs_length]; omega)]
theorem shr_num (n j : Nat) (hj : j ≤ 64) : shr .i64 (n : Int) (j : Int) = ((n / 2 ^ j : Nat) : Int) := by
  unfold shr
  rw [show (j : Int).toNat = j from by omega, Nat.min_eq_left (by simpa [IntKind.bits] using hj)]
  simp
theorem put_l0 (n w : Nat) (hw : w ≤ 8) (d : Nat) : ∀ (i k : Nat), i + d = w → d < k →
    octet_Put.l0 k (n : Int) (w : Int) (pre n w i) (w : Int) (i : Int) = some (mk (digs n w), 0) := by
  induction d with
  | zero =>
    intro i k hi hk
    obtain ⟨k, rfl⟩ : ∃ m, k = m + 1 := ⟨k - 1, by omega⟩
    simp only [octet_Put.l0]
    rw [if_neg (by omega)]
    obtain rfl : i = w := by omega
    rw [pre_full]
  | succ d ih =>
    intro i k hi hk
    obtain ⟨k, rfl⟩ : ∃ m, k = m + 1 := ⟨k - 1, by omega⟩
    simp only [octet_Put.l0]
    have e1 : wrap64 ((w : Int) - 1) = (w : Int) - 1 := wrap64_id (by omega) (by omega)
    have e2 : wrap64 ((w : Int) - 1 - i) = ((w - 1 - i : Nat) : Int) := by rw [wrap64_id (by omega) (by omega)]; omega
    have e3 : wrap64 (8 * ((w - 1 - i : Nat) : Int)) = ((8 * (w - 1 - i) : Nat) : Int) := by rw [wrap64_id (by omega) (by omega)]; omega
    have e4 : wrap64 ((i : Int) + 1) = ((i + 1 : Nat) : Int) := by rw [wrap64_id (by omega) (by omega)]; omega
    rw [e1, e2, e3, e4, shr_num _ _ (by omega), pre_length]
    rw [if_pos (by omega), if_pos (by omega), if_pos (by omega), if_pos (by omega)]
    rw [show (i : Int).toNat = i from by omega, Nat.pow_mul, show (((n / (2 ^ 8) ^ (w - 1 - i) : Nat) : Int) % 256) = ((n / 256 ^ (w - 1 - i) % 256 : Nat) : Int) from by simp]
    rw [pre_set n w i (by omega)]
    exact ih (i + 1) k (by omega) (by omega)
theorem put_eq {n w : Int} (hn : (Lit.int .i64 n).wf = true) (hw : (Lit.int .i64 w).wf = true) {k : Nat} (hk : 12 ≤ k) : octet_Put.f k n w = some (putS n w) := by
  rw [wf_i64] at hn hw
  obtain ⟨k, rfl⟩ : ∃ m, k = m + 2 := ⟨k - 2, by omega⟩
  unfold octet_Put.f putS
  by_cases h1 : w < 1
  · rw [if_pos h1, if_pos (.inl h1)]; simp [octet_Put.j0, empty_mk]
  rw [if_neg h1]
  by_cases h8 : 8 < w
  · rw [if_pos (.inr h8), show decide (w > 8) = true from by simpa using h8]; simp [octet_Put.j0, empty_mk]
  rw [if_neg (by omega), show decide (w > 8) = false from by simpa using h8]
  simp only [octet_Put.j0]
  rw [if_neg (by simp)]
  by_cases hn0 : n < 0
  · rw [if_pos hn0, if_pos (.inl hn0)]; simp [octet_Put.j1, empty_mk]
  rw [if_neg hn0]
  obtain ⟨n, rfl⟩ := Int.eq_ofNat_of_zero_le (show 0 ≤ n by omega)
  obtain ⟨w, rfl⟩ := Int.eq_ofNat_of_zero_le (show 0 ≤ w by omega)
  have e1 : wrap64 (8 * (w : Int)) = ((8 * w : Nat) : Int) := by rw [wrap64_id (by omega) (by omega)]; omega
  rw [show (n : Int).toNat = n from by omega, show (w : Int).toNat = w from by omega]
  have fin : octet_Put.j1 (k + 1) (n : Int) (w : Int) false = some (mk (digs n w), 0) := by
    simp only [octet_Put.j1]
    rw [if_neg (by simp), if_pos (by omega), if_pos (by omega)]
    simp only [Option.bind_some]
    rw [show (w : Int).toNat = w from by omega, ← pre_zero n w, pre_length]
    exact put_l0 n w (by omega) w 0 k (by omega) (by omega)
  by_cases hw8 : w < 8
  · rw [if_pos (by omega), e1, if_pos (by omega), shr_num _ _ (by omega), Nat.pow_mul]
    by_cases hbig : 256 ^ w ≤ n
    · have : n / (2 ^ 8) ^ w ≠ 0 := by
        have := Nat.div_pos hbig (Nat.pow_pos (by omega : 0 < 256))
        simpa using Nat.pos_iff_ne_zero.1 this
      rw [show ((((n / (2 ^ 8) ^ w : Nat) : Int)) != 0) = true from by rw [bne_iff_ne]; omega]
      rw [if_pos (.inr (by rw [← pow_cast]; omega))]
      simp [octet_Put.j1, empty_mk]
    · have : n / (2 ^ 8) ^ w = 0 := Nat.div_eq_of_lt (by simpa using Nat.lt_of_not_le hbig)
      rw [this, show ((((0 : Nat) : Int)) != 0) = false from rfl, fin, if_neg (by
        intro h
        rcases h with h | h
        · omega
        · rw [← pow_cast] at h; omega)]
  · obtain rfl : w = 8 := by omega
    rw [if_neg (by omega), fin, if_neg (by
      have : (256 : Int) ^ 8 = 18446744073709551616 := by decide
      rw [this]
      omega)]
theorem or_byte (a b : Nat) (ha : a < 2 ^ 56) (hb : b < 256) : Go.bits .or .u64 (IntKind.u64.wrap ((a : Int) * 256)) (IntKind.u64.wrap (b : Int)) = ((256 * a + b : Nat) : Int) := by
  have w1 : IntKind.u64.wrap ((a : Int) * 256) = ((a * 256 : Nat) : Int) := by
    simp [IntKind.wrap, IntKind.bits, IntKind.signed]; omega
  have w2 : IntKind.u64.wrap (b : Int) = (b : Int) := by
    simp [IntKind.wrap, IntKind.bits, IntKind.signed]; omega
  have hu : ∀ n : Int, 0 ≤ n → n < 2 ^ 64 → IntKind.u64.wrap n = n := by
    intro n h0 h1
    simp [IntKind.wrap, IntKind.bits, IntKind.signed]; omega
  rw [w1, w2]
  rw [bits_join .u64 64 (by decide) hu 8 _ _ (by omega) (by omega) (by omega) (by omega) (by omega) (by omega)]
  omega
theorem get_l0 (s : ByteArray) (hs : s.size ≤ 8) (d : Nat) : ∀ (i k : Nat), i + d = s.size → d < k →
    octet_Get.l0 k s (num (s.data.toList.take i) : Nat) (s.size : Int) (i : Int) = some (if 9223372036854775807 < num s.data.toList then (0, 10) else ((num s.data.toList : Int), 0)) := by
  have hl : s.data.toList.length = s.size := by simp
  induction d with
  | zero =>
    intro i k hi hk
    obtain ⟨k, rfl⟩ : ∃ m, k = m + 1 := ⟨k - 1, by omega⟩
    simp only [octet_Get.l0]
    rw [if_neg (by omega), show s.data.toList.take i = s.data.toList from List.take_of_length_le (by omega)]
    by_cases h : 9223372036854775807 < num s.data.toList
    · rw [if_pos (by omega), if_pos h]
    · rw [if_neg (by omega), if_neg h, wrap64_id (by omega) (by omega)]
  | succ d ih =>
    intro i k hi hk
    obtain ⟨k, rfl⟩ : ∃ m, k = m + 1 := ⟨k - 1, by omega⟩
    simp only [octet_Get.l0]
    have e4 : wrap64 ((i : Int) + 1) = ((i + 1 : Nat) : Int) := by rw [wrap64_id (by omega) (by omega)]; omega
    have hlt : num (s.data.toList.take i) < 2 ^ 56 := by
      have h1 := num_lt (s.data.toList.take i)
      have h2 : (s.data.toList.take i).length ≤ 7 := by rw [List.length_take]; omega
      have h3 : 256 ^ (s.data.toList.take i).length ≤ 256 ^ 7 := Nat.pow_le_pow_right (by omega) h2
      have h4 : (256 : Nat) ^ 7 = 2 ^ 56 := by decide
      omega
    rw [if_pos (by omega), if_pos (by omega), if_pos (by omega), bt_data s i (by omega), or_byte _ _ hlt (UInt8.toNat_lt _), e4, ← num_take_succ s.data.toList i (by omega)]
    exact ih (i + 1) k (by omega) (by omega)
theorem get_eq (s : ByteArray) {k : Nat} (hk : 12 ≤ k) : octet_Get.f k s = some (getS s) := by
  obtain ⟨k, rfl⟩ : ∃ m, k = m + 1 := ⟨k - 1, by omega⟩
  unfold octet_Get.f getS
  by_cases h1 : s.size < 1
  · rw [if_pos (by omega), if_pos (.inl h1)]; simp [octet_Get.j0]
  rw [if_neg (by omega)]
  by_cases h8 : 8 < s.size
  · rw [if_pos (.inr h8), show decide ((s.size : Int) > 8) = true from by simp; omega]; simp [octet_Get.j0]
  rw [if_neg (by omega), show decide ((s.size : Int) > 8) = false from by simp; omega]
  simp only [octet_Get.j0]
  rw [if_neg (by simp)]
  exact get_l0 s (by omega) s.size 0 k (by omega) (by omega)
theorem number_eq (s : ByteArray) (w : Int) {k : Nat} (hk : 14 ≤ k) : octet_Number.f k s w = some (numberS s w) := by
  obtain ⟨k, rfl⟩ : ∃ m, k = m + 1 := ⟨k - 1, by omega⟩
  unfold octet_Number.f numberS
  by_cases h1 : w < 1
  · rw [if_pos h1, if_pos (.inl h1)]; simp [octet_Number.j0, empty_mk]
  rw [if_neg h1]
  by_cases h8 : 8 < w
  · rw [if_pos (.inr h8), show decide (w > 8) = true from by simpa using h8]; simp [octet_Number.j0, empty_mk]
  rw [if_neg (by omega), show decide (w > 8) = false from by simpa using h8]
  simp only [octet_Number.j0]
  rw [if_neg (by simp)]
  by_cases hs : (s.size : Int) < w
  · rw [if_pos hs, if_pos hs]; rfl
  rw [if_neg hs, if_neg hs, if_pos (by omega), if_pos (by omega), get_eq _ (by omega)]
  simp only [Option.bind_some]
  by_cases he : (getS (s.extract 0 w.toNat)).2 = 0
  · rw [if_pos he, if_pos he]
  · rw [if_neg he, if_neg he]; rfl
theorem putS_of {n w : Nat} (h1 : 1 ≤ w) (h8 : w ≤ 8) (hn : n < 256 ^ w) : putS (n : Int) (w : Int) = (mk (digs n w), 0) := by
  unfold putS
  rw [if_neg (by omega), if_neg (by rw [show (w : Int).toNat = w from by omega, ← pow_cast]; omega)]
  rfl
theorem getS_digs {n w : Nat} (h1 : 1 ≤ w) (h8 : w ≤ 8) (hn : n < 256 ^ w) (hb : n ≤ 9223372036854775807) : getS (mk (digs n w)) = ((n : Int), 0) := by
  unfold getS
  rw [mk_size, digs_length, mk_data, num_digs n w hn, if_neg (by omega), if_neg (by omega)]
end Go.Proofs.Ytgfmdfgibkkfaaa.Oct
