/- What the sum's functions answer, as plain functions of numbers and texts. -/
import Derived.Test.YtpejcejkgbbbbaaPx1
import Derived.Test.YtpejcejkgbbbbaaCore
import Derived.Test.YtpejcejkgbbbbaaCrc
import Derived.Laws.BitsLemmas
set_option linter.unusedVariables false
set_option linter.unusedSimpArgs false
namespace Go.Proofs.Ytpejcejkgbbbbaa.Sum
open Go.RowKit Go.Proofs.Ytpejcejkgbbbbaa.P Go.Proofs.Ytpejcejkgbbbbaa.Core Go.Proofs.Ytpejcejkgbbbbaa.Crc Go.Proofs.YtpejcejkgbbbbaaW.PrintWords Go.Proofs.YtpejcejkgbbbbaaW.PrintLast Go.Proofs.YtpejcejkgbbbbaaW.PrintMore

theorem w64_id {n : Int} (h0 : -9223372036854775808 ≤ n) (h1 : n ≤ 9223372036854775807) : wrap64 n = n := by unfold wrap64; omega
theorem of_eq (s : ByteArray) (hs : s.size ≤ 9223372036854775807) : sum_Of.f s = some (crc 0 s : Int) := by
  unfold sum_Of.f
  have := on_eq 0 s (by omega) hs
  rw [show ((0 : Nat) : Int) = 0 from rfl] at this
  rw [this]
  rfl

/-! The reference's On, bit by bit -/
theorem bits_xor64 (a b : Nat) (ha : a < 4294967296) (hb : b < 4294967296) : Go.bits .xor .i64 (a : Int) (b : Int) = ((a ^^^ b : Nat) : Int) := by
  have h : a ^^^ b < 4294967296 := xor_lt32 ha hb
  simp only [Go.bits, BitVec.ofInt_natCast, BitVec.toNat_xor, BitVec.toNat_ofNat]
  rw [show IntKind.i64.bits = 64 from rfl, Nat.mod_eq_of_lt (by omega), Nat.mod_eq_of_lt (by omega)]
  rw [IntKind.wrap_i64]
  omega
theorem bits_and64 (a : Nat) (ha : a < 4294967296) : Go.bits .and .i64 (a : Int) 1 = ((a % 2 : Nat) : Int) := by
  have := bits_mask .i64 32 (by decide) (fun n h0 h1 => by rw [IntKind.wrap_i64]; omega) 1 (by decide) (a : Int) (by omega) (by omega)
  simpa using this
theorem xor_poly (a : Nat) (ha : a < 4294967296) : Go.bits .xor .i64 (a : Int) 3988292384 = ((a ^^^ 3988292384 : Nat) : Int) := bits_xor64 a 3988292384 ha (by decide)
theorem ron_l1 (s : ByteArray) (i : Nat) (hi : i < s.size) (hs : s.size ≤ 140737488351232) (d : Nat) : ∀ (j c k : Nat), j + d = 8 → c < 4294967296 →
    counterfoilref02_On.l1 (k + d + 1) s (c : Int) (i : Int) (j : Int) = counterfoilref02_On.l0 k s ((crcIter d (c ^^^ s[i].toNat / 2 ^ j) : Nat) : Int) ((i + 1 : Nat) : Int) := by
  have hbt : bt s (i : Int) = (s[i].toNat : Int) := by
    rw [bt_data s i hi]; simp [ByteArray.getElem_eq_getElem_data]
  have hb := s[i].toNat_lt
  induction d with
  | zero =>
    intro j c k hj hc
    simp only [counterfoilref02_On.l1]
    have e4 : wrap64 ((i : Int) + 1) = ((i + 1 : Nat) : Int) := by rw [w64_id (by omega) (by omega)]; omega
    rw [if_neg (by omega), e4]
    obtain rfl : j = 8 := by omega
    rw [Nat.div_eq_of_lt (show s[i].toNat < 2 ^ 8 from hb), Nat.xor_zero]
    rfl
  | succ d ih =>
    intro j c k hj hc
    rw [show k + (d + 1) + 1 = (k + d + 1) + 1 from by omega]
    have hc2 : c / 2 < 4294967296 := by omega
    have hj8 : j + 1 + d = 8 := by omega
    have hlo : ∀ x : Nat, c % 2 = x → ((c % 2 : Nat) : Int) = ((x : Nat) : Int) := fun x h => by rw [h]
    rw [counterfoilref02_On.l1]
    have e4 : wrap64 ((j : Int) + 1) = ((j + 1 : Nat) : Int) := by rw [w64_id (by omega) (by omega)]; omega
    have e5 : wrap64 (bt s (i : Int)) = (s[i].toNat : Int) := by rw [hbt, w64_id (by omega) (by omega)]
    have e6 : shr .i64 (s[i].toNat : Int) (j : Int) = ((s[i].toNat / 2 ^ j : Nat) : Int) := by
      unfold shr
      rw [show (j : Int).toNat = j from by omega, show IntKind.i64.bits = 64 from rfl, Nat.min_eq_left (by omega)]
      simp
    have hq : s[i].toNat / 2 ^ j < 256 := Nat.lt_of_le_of_lt (Nat.div_le_self _ _) hb
    have e7 : Int.tmod (c : Int) 2 = ((c % 2 : Nat) : Int) := by rw [Int.tmod_eq_emod_of_nonneg (by omega)]; omega
    have e8 : wrap64 (Int.tdiv (c : Int) 2) = ((c / 2 : Nat) : Int) := by
      rw [Int.tdiv_eq_ediv_of_nonneg (by omega), w64_id (by omega) (by omega)]; omega
    have hdd : s[i].toNat / 2 ^ (j + 1) = s[i].toNat / 2 ^ j / 2 := by rw [Nat.pow_succ, Nat.div_div_eq_div_mul]
    rw [if_pos (by omega), if_pos (by omega), if_pos (by omega), if_pos (by omega), e5, e6, bits_and64 _ (by omega), e7, e8, xor_poly _ hc2, e4, iter_step]
    have hstep : ∀ b : Bool, (decide (c % 2 = s[i].toNat / 2 ^ j % 2) = b) → crcStep (c ^^^ s[i].toNat / 2 ^ j) = (if b then c / 2 else (c / 2) ^^^ 3988292384) ^^^ s[i].toNat / 2 ^ (j + 1) := by
      intro b hb
      unfold crcStep
      rw [xor_mod2, xor_half, hdd]
      cases b with
      | true =>
        have := of_decide_eq_true hb
        rw [if_neg (by omega)]
        rfl
      | false =>
        have := of_decide_eq_false hb
        rw [if_pos (by omega)]
        simp only [Bool.false_eq_true, if_false]
        rw [Nat.xor_assoc, Nat.xor_assoc, Nat.xor_comm (s[i].toNat / 2 ^ j / 2)]
    by_cases hx : c % 2 = s[i].toNat / 2 ^ j % 2
    · rw [if_pos (hlo _ hx), ih (j + 1) (c / 2) k hj8 hc2, hstep true (decide_eq_true hx)]
      rfl
    · rw [if_neg (fun h => hx (Int.ofNat_inj.1 h)), ih (j + 1) _ k hj8 (xor_lt32 hc2 (by decide)), hstep false (decide_eq_false hx)]
      rfl
theorem ron_l0 (s : ByteArray) (hs : s.size ≤ 140737488351232) (d : Nat) : ∀ (i c k : Nat), i + d = s.size → c < 4294967296 → 10 * d + 1 ≤ k →
    counterfoilref02_On.l0 k s (c : Int) (i : Int) = some ((4294967295 - crcL c (s.data.toList.drop i) : Nat) : Int) := by
  have hl : s.data.toList.length = s.size := by simp
  induction d with
  | zero =>
    intro i c k hi hc hk
    obtain ⟨k, rfl⟩ : ∃ m, k = m + 1 := ⟨k - 1, by omega⟩
    simp only [counterfoilref02_On.l0]
    rw [if_neg (by omega), List.drop_eq_nil_of_le (by omega), w64_id (by omega) (by omega)]
    simp only [crcL, List.foldl_nil]
    congr 1
    omega
  | succ d ih =>
    intro i c k hi hc hk
    obtain ⟨k, rfl⟩ : ∃ m, k = m + 8 + 1 + 1 := ⟨k - 10, by omega⟩
    rw [counterfoilref02_On.l0]
    rw [if_pos (by omega)]
    have h8 := ron_l1 s i (by omega) hs 8 0 c k (by omega) hc
    rw [show ((0 : Nat) : Int) = 0 from rfl, Nat.pow_zero, Nat.div_one, ← crcByte_iter] at h8
    rw [h8, ih (i + 1) _ k (by omega) (crcByte_lt hc (UInt8.toNat_lt _)) (by omega), List.drop_eq_getElem_cons (show i < s.data.toList.length by omega)]
    simp only [crcL, List.foldl_cons]
    rfl
theorem ron_eq (c : Nat) (s : ByteArray) (hc : c < 4294967296) (hs : s.size ≤ 140737488351232) {k : Nat} (hk : 10 * s.size + 1 ≤ k) : counterfoilref02_On.f k (c : Int) s = some (crc c s : Int) := by
  unfold counterfoilref02_On.f crc
  rw [w64_id (n := (c : Int)) (by omega) (by omega), w64_id (by omega) (by omega), show (4294967295 - (c : Int)) = ((4294967295 - c : Nat) : Int) from by omega]
  have := ron_l0 s hs s.size 0 (4294967295 - c) k (by omega) (by omega) hk
  rw [List.drop_zero, show ((0 : Nat) : Int) = 0 from rfl] at this
  exact this

/-! A sum's four bytes; a text that ends in its sum -/
theorem num_digs4 (c : Nat) (h : c < 4294967296) : num (digs c 4) = c := num_digs c 4 (by omega)
theorem four_eq (c : Nat) (h : c < 4294967296) : counterfoilref02_Four.f (c : Int) = some (mk (digs c 4)) := by
  unfold counterfoilref02_Four.f
  rw [w64_id (n := (c : Int)) (by omega) (by omega), Int.tdiv_eq_ediv_of_nonneg (by omega), Int.tdiv_eq_ediv_of_nonneg (by omega), Int.tdiv_eq_ediv_of_nonneg (by omega), Int.tmod_eq_emod_of_nonneg (a := (c : Int)) (by omega)]
  rw [w64_id (n := (c : Int) / 16777216) (by omega) (by omega), w64_id (n := (c : Int) / 65536) (by omega) (by omega), w64_id (n := (c : Int) / 256) (by omega) (by omega)]
  rw [Int.tmod_eq_emod_of_nonneg (a := (c : Int) / 65536) (by omega), Int.tmod_eq_emod_of_nonneg (a := (c : Int) / 256) (by omega), strOfNums_mk]
  have e0 : ((c : Int) / 16777216 % 256).toNat = c / 16777216 % 256 := by omega
  have e1 : ((c : Int) / 65536 % 256 % 256).toNat = c / 65536 % 256 := by omega
  have e2 : ((c : Int) / 256 % 256 % 256).toNat = c / 256 % 256 := by omega
  have e3 : ((c : Int) % 256 % 256).toNat = c % 256 := by omega
  have u : ∀ n : Nat, UInt8.ofNat (n % 256) = UInt8.ofNat n := fun n => by apply UInt8.toNat_inj.1; simp
  simp only [List.map_cons, List.map_nil, e0, e1, e2, e3, u]
  simp [digs, mk]
def rightS (s : ByteArray) : Bool := decide (4 ≤ s.size) && (num (s.data.toList.drop (s.size - 4)) == crc 0 (s.extract 0 (s.size - 4)))
theorem or32 (x y i : Nat) (hi : i ≤ 32) (hx : x % 2 ^ i = 0) (hx1 : x < 4294967296) (hy : y < 2 ^ i) : Go.bits .or .u32 (x : Int) (y : Int) = ((x + y : Nat) : Int) := by
  have h32 : (2 : Nat) ^ i ≤ 2 ^ 32 := Nat.pow_le_pow_right (by omega) hi
  rw [bits_join .u32 32 (by decide) (fun n h0 h1 => by rw [IntKind.wrap_u32]; omega) i (x : Int) (y : Int) (by omega) (by exact_mod_cast hx) (by omega) (by omega) (by exact_mod_cast hy) (by omega)]
  omega
theorem drop_four : ∀ (l : List UInt8), l.length = 4 → ∃ a b c d, l = [a, b, c, d]
  | [a, b, c, d], _ => ⟨a, b, c, d, rfl⟩
theorem right_eq (s : ByteArray) (hs : s.size ≤ 4611686018427387904) : sum_Right.f s = some (rightS s) := by
  have hl : s.data.toList.length = s.size := by simp
  unfold sum_Right.f rightS
  rw [w64_id (n := (s.size : Int) - 4) (by omega) (by omega)]
  by_cases h : s.size < 4
  · rw [if_pos (by omega), decide_eq_false (by omega)]; rfl
  rw [if_neg (by omega), decide_eq_true (by omega)]
  have hn : (s.size : Int) - 4 = ((s.size - 4 : Nat) : Int) := by omega
  rw [hn, w64_id (n := ((s.size - 4 : Nat) : Int) + 1) (by omega) (by omega), w64_id (n := ((s.size - 4 : Nat) : Int) + 2) (by omega) (by omega), w64_id (n := ((s.size - 4 : Nat) : Int) + 3) (by omega) (by omega)]
  rw [if_pos (by omega), if_pos (by omega), if_pos (by omega), if_pos (by omega), if_pos (by omega), if_pos (by omega), if_pos (by omega), if_pos (by omega), if_pos (by omega), Int.toNat_natCast]
  rw [of_eq _ (by rw [ByteArray.size_extract]; omega)]
  simp only [Option.bind_some, Bool.true_and]
  congr 1
  obtain ⟨a, b, c, d, hd⟩ := drop_four (s.data.toList.drop (s.size - 4)) (by rw [List.length_drop]; omega)
  have g : ∀ (j : Nat) (x : UInt8), [a, b, c, d][j]? = some x → bt s ((s.size - 4 + j : Nat) : Int) = (x.toNat : Int) := by
    intro j x hx
    have hj : j < 4 := by
      have := (List.getElem?_eq_some_iff.1 hx).1
      simpa using this
    rw [bt_data s _ (by omega)]
    rw [← hd, List.getElem?_drop] at hx
    rw [(List.getElem?_eq_some_iff.1 hx).2]
  have g0 := g 0 a rfl
  have g1 := g 1 b rfl
  have g2 := g 2 c rfl
  have g3 := g 3 d rfl
  rw [Nat.add_zero] at g0
  rw [show ((s.size - 4 + 1 : Nat) : Int) = ((s.size - 4 : Nat) : Int) + 1 from by omega] at g1
  rw [show ((s.size - 4 + 2 : Nat) : Int) = ((s.size - 4 : Nat) : Int) + 2 from by omega] at g2
  rw [show ((s.size - 4 + 3 : Nat) : Int) = ((s.size - 4 : Nat) : Int) + 3 from by omega] at g3
  have ha := a.toNat_lt
  have hb := b.toNat_lt
  have hc := c.toNat_lt
  have hdl := d.toNat_lt
  rw [g0, g1, g2, g3, hd]
  generalize crc 0 (s.extract 0 (s.size - 4)) = z
  have e0 : ((a.toNat : Int) % 4294967296) * 16777216 % 4294967296 = ((16777216 * a.toNat : Nat) : Int) := by omega
  have e1 : ((b.toNat : Int) % 4294967296) * 65536 % 4294967296 = ((65536 * b.toNat : Nat) : Int) := by omega
  have e2 : ((c.toNat : Int) % 4294967296) * 256 % 4294967296 = ((256 * c.toNat : Nat) : Int) := by omega
  have e3 : ((d.toNat : Int) % 4294967296) = (d.toNat : Int) := by omega
  rw [e0, e1, e2, e3]
  rw [or32 _ _ 24 (by omega) (by omega) (by omega) (by omega), or32 _ _ 16 (by omega) (by omega) (by omega) (by omega), or32 _ _ 8 (by omega) (by omega) (by omega) (by omega)]
  simp only [num, List.foldl_cons, List.foldl_nil]
  rw [Bool.eq_iff_iff]
  simp only [beq_iff_eq]
  omega
theorem rright_eq (s : ByteArray) (hs : s.size ≤ 140737488351232) {k : Nat} (hk : 10 * s.size + 1 ≤ k) : counterfoilref02_Right.f k s = some (rightS s) := by
  have hl : s.data.toList.length = s.size := by simp
  unfold counterfoilref02_Right.f rightS
  by_cases h : s.size < 4
  · rw [if_pos (by omega), decide_eq_false (by omega)]; rfl
  rw [if_neg (by omega), decide_eq_true (by omega), w64_id (by omega) (by omega), if_pos (by omega), if_pos (by omega)]
  have hn : ((s.size : Int) - 4).toNat = s.size - 4 := by omega
  have hz : (s.extract 0 (s.size - 4)).size ≤ s.size := by rw [ByteArray.size_extract]; omega
  have hr := ron_eq 0 (s.extract 0 (s.size - 4)) (by omega) (by omega) (k := k) (by omega)
  rw [show ((0 : Nat) : Int) = 0 from rfl] at hr
  rw [hn, hr]
  simp only [Option.bind_some, Bool.true_and]
  rw [four_eq _ (crc_lt _ _)]
  simp only [Option.bind_some]
  congr 1
  have hlt := crc_lt 0 (s.extract 0 (s.size - 4))
  generalize crc 0 (s.extract 0 (s.size - 4)) = z at *
  rw [ByteArray.toList_eq, ByteArray.toList_eq, mk_data, data_extract_list, List.take_of_length_le (by omega)]
  rw [Bool.eq_iff_iff]
  simp only [beq_iff_eq]
  constructor
  · intro h; rw [h, num_digs4 z hlt]
  · intro h
    have := digs_num (s.data.toList.drop (s.size - 4))
    rw [List.length_drop, show s.data.toList.length - (s.size - 4) = 4 from by omega, h] at this
    exact this.symm
theorem crc_nine : crc 0 ⟨#[49, 50, 51, 52, 53, 54, 55, 56, 57]⟩ = 3421780262 := by decide +kernel
theorem awake_eq : counterfoillaw02_awake.f = some true := by
  unfold counterfoillaw02_awake.f
  rw [of_eq _ (by decide), crc_nine]
  rfl
end Go.Proofs.Ytpejcejkgbbbbaa.Sum
