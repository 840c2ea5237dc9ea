/- For all texts, places and four bytes, SumFour answers true: a text of which up to four bytes next to one another are turned has another sum. -/
import Derived.Test.YtpejcejkgbbbbaaPx0
import Derived.Test.YtpejcejkgbbbbaaSumB
import Derived.Test.YtpejcejkgbbbbaaHSumFour
namespace Go.Proofs.Ytpejcejkgbbbbaa.Pure
open Go.RowKit Go.Proofs.Ytpejcejkgbbbbaa.P Go.Proofs.Ytpejcejkgbbbbaa.Core Go.Proofs.Ytpejcejkgbbbbaa.Crc Go.Proofs.Ytpejcejkgbbbbaa.Conv Go.Proofs.Ytpejcejkgbbbbaa.Sum Go.Proofs.YtpejcejkgbbbbaaW.PrintWords Go.Proofs.YtpejcejkgbbbbaaW.PrintLast Go.Proofs.YtpejcejkgbbbbaaW.PrintMore
set_option linter.unusedVariables false
set_option linter.unusedSimpArgs false

theorem split_four (l : List UInt8) (i : Nat) (h : i + 4 ≤ l.length) : ∃ (L : List UInt8) (c0 c1 c2 c3 : UInt8) (R : List UInt8), l = L ++ c0 :: c1 :: c2 :: c3 :: R ∧ L.length = i := by
  refine ⟨l.take i, l[i], l[i + 1], l[i + 2], l[i + 3], l.drop (i + 4), ?_, by rw [List.length_take]; omega⟩
  rw [List.getElem_cons_drop, List.getElem_cons_drop, List.getElem_cons_drop, List.getElem_cons_drop, List.take_append_drop]
theorem fl_four (L R : List UInt8) (c0 c1 c2 c3 b0 b1 b2 b3 : UInt8) :
    fl (mk (L ++ c0 :: c1 :: c2 :: c3 :: R)) L.length (ys (b0.toNat : Int) (b1.toNat : Int) (b2.toNat : Int) (b3.toNat : Int)) 4 = ints (L ++ (c0 ^^^ b0) :: (c1 ^^^ b1) :: (c2 ^^^ b2) :: (c3 ^^^ b3) :: R) := by
  have hbt : ∀ (j : Nat) (c : UInt8), (c0 :: c1 :: c2 :: c3 :: R)[j]? = some c → bt (mk (L ++ c0 :: c1 :: c2 :: c3 :: R)) ((L.length + j : Nat) : Int) = (c.toNat : Int) := by
    intro j c hj
    have hlt : L.length + j < (mk (L ++ c0 :: c1 :: c2 :: c3 :: R)).size := by
      have := (List.getElem?_eq_some_iff.1 hj).1
      rw [mk_size, List.length_append]
      omega
    rw [bt_data _ _ hlt]
    have h1 : (L ++ c0 :: c1 :: c2 :: c3 :: R)[L.length + j]? = some c := by
      rw [List.getElem?_append_right (by omega), Nat.add_sub_cancel_left]
      exact hj
    exact congrArg (fun z : UInt8 => (z.toNat : Int)) (List.getElem?_eq_some_iff.1 h1).2
  have hset : ∀ (M : List UInt8) (j : Nat) (y : UInt8), (L ++ M).set (L.length + j) y = L ++ M.set j y := by
    intro M j y
    rw [List.set_append_right _ _ (by omega), Nat.add_sub_cancel_left]
  simp only [fl, ys]
  rw [hbt 0 c0 rfl, hbt 1 c1 rfl, hbt 2 c2 rfl, hbt 3 c3 rfl, bytesOf_ints, mk_data, xor_byte, xor_byte, xor_byte, xor_byte, ints_set, ints_set, ints_set, ints_set, hset, hset, hset, hset]
  rfl
theorem SumFour : counterfoillaw02_SumFour.Pure := by
  intro s i y0 y1 y2 y3 hs hi hy0 hy1 hy2 hy3
  have hb : ∀ y : Int, (Lit.int .u8 y).wf = true → ∃ b : UInt8, y = (b.toNat : Int) := by
    intro y hy
    have hy2 : 0 ≤ y ∧ y ≤ 255 := by simpa [Lit.wf, IntKind.min, IntKind.max, IntKind.signed, IntKind.bits] using hy
    exact byte_of hy2.1 hy2.2
  obtain ⟨b0, rfl⟩ := hb y0 hy0
  obtain ⟨b1, rfl⟩ := hb y1 hy1
  obtain ⟨b2, rfl⟩ := hb y2 hy2
  obtain ⟨b3, rfl⟩ := hb y3 hy3
  unfold counterfoillaw02_SumFour.f
  by_cases h1 : i < 0
  · rw [if_pos h1]; exact awake_eq
  rw [if_neg h1]
  by_cases h2 : (s.size : Int) - 4 < i
  · rw [if_pos h2]; exact awake_eq
  rw [if_neg h2]
  obtain ⟨i, rfl⟩ := Int.eq_ofNat_of_zero_le (show 0 ≤ i by omega)
  have hl : i + 4 ≤ s.data.toList.length := by simpa using (show i + 4 ≤ s.size by omega)
  obtain ⟨L, c0, c1, c2, c3, R, hD, rfl⟩ := split_four s.data.toList i hl
  obtain rfl : s = mk (L ++ c0 :: c1 :: c2 :: c3 :: R) := by rw [← hD, data_mk]
  have hz : (L ++ (c0 ^^^ b0) :: (c1 ^^^ b1) :: (c2 ^^^ b2) :: (c3 ^^^ b3) :: R).length = (mk (L ++ c0 :: c1 :: c2 :: c3 :: R)).size := by rw [mk_size]; simp
  rw [Int.toNat_natCast, fl_four, nums_ints, of_eq _ (by rw [mk_size, hz]; omega), of_eq _ (by omega)]
  simp only [Option.bind_some]
  rw [if_pos ?_]
  · exact awake_eq
  · rw [beq_iff_eq, Bool.eq_iff_iff]
    simp only [beq_iff_eq, Bool.and_eq_true]
    constructor
    · intro h
      have h3 := crc_inj (Int.natCast_inj.1 h)
      rw [mk_data, mk_data, crcL_append, crcL_append] at h3
      obtain ⟨rfl, rfl, rfl, rfl⟩ := four_turned (crcL_lt _ (by omega)) R c0 c1 c2 c3 b0 b1 b2 b3 h3.symm
      exact ⟨rfl, rfl, rfl, rfl⟩
    · rintro ⟨h0, h1, h2, h3⟩
      obtain rfl : b0 = 0 := UInt8.toNat_inj.1 (by simpa using h0)
      obtain rfl : b1 = 0 := UInt8.toNat_inj.1 (by simpa using h1)
      obtain rfl : b2 = 0 := UInt8.toNat_inj.1 (by simpa using h2)
      obtain rfl : b3 = 0 := UInt8.toNat_inj.1 (by simpa using h3)
      rw [UInt8.xor_zero, UInt8.xor_zero, UInt8.xor_zero, UInt8.xor_zero]
end Go.Proofs.Ytpejcejkgbbbbaa.Pure
