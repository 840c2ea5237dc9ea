import Derived.Test.YtgfmdfgibkkfaaaKaPx1
import Derived.Test.YtgfmdfgibkkfaaaKaPx3
import Derived.Test.YtgfmdfgibkkfaaaKaCore
import Derived.Test.YtgfmdfgibkkfaaaKaCrc
import Derived.Laws.BitsLemmas
set_option linter.unusedVariables false
set_option linter.unusedSimpArgs false
namespace Go.Proofs.Ytgfmdfgibkkfaaa.Sum
open Go.RowKit Go.Proofs.Ytgfmdfgibkkfaaa.P Go.Proofs.Ytgfmdfgibkkfaaa.Core Go.Proofs.Ytgfmdfgibkkfaaa.Crc Go.Proofs.YtgfmdfgibkkfaaaW.PrintWords Go.Proofs.YtgfmdfgibkkfaaaW.PrintLast Go.Proofs.YtgfmdfgibkkfaaaW.PrintMore
theorem w64_id {n : Int} (h0 : -9223372036854775808 ≤ n) (h1 : n ≤ 9223372036854775807) : wrap64 n = n := by unfold wrap64; omega
theorem of_eq (s : ByteArray) (hs : s.size ≤ 9223372036854775807) : sum_Of.f s = some (crc 0 s : Int) := by
  unfold sum_Of.f
  have := on_eq 0 s (by omega) hs
  rw [show ((0 : Nat) : Int) = 0 from rfl] at this
  rw [this]
  rfl
theorem num_digs4 (c : Nat) (h : c < 4294967296) : num (digs c 4) = c := num_digs c 4 (by omega)
def rightS (s : ByteArray) : Bool := decide (4 ≤ s.size) && (num (s.data.toList.drop (s.size - 4)) == crc 0 (s.extract 0 (s.size - 4)))
theorem or32 (x y i : Nat) (hi : i ≤ 32) (hx : x % 2 ^ i = 0) (hx1 : x < 4294967296) (hy : y < 2 ^ i) : Go.bits .or .u32 (x : Int) (y : Int) = ((x + y : Nat) : Int) := by
  have h32 : (2 : Nat) ^ i ≤ 2 ^ 32 := Nat.pow_le_pow_right (by omega) hi
  rw [bits_join .u32 32 (by decide) (fun n h0 h1 => by rw [IntKind.wrap_u32]; omega) i (x : Int) (y : Int) (by omega) (by exact_mod_cast hx) (by omega) (by omega) (by exact_mod_cast hy) (by omega)]
  omega
theorem drop_four : ∀ (l : List UInt8), l.length = 4 → ∃ a b c d, l = [a, b, c, d]
  | [a, b, c, d], _ => ⟨a, b, c, d, rfl⟩
theorem right_eq (s : ByteArray) (hs : s.size ≤ 4611686018427387904) : sum_Right.f s = some (rightS s) := by
  have hl : s.data.toList.length = s.size := by simp
  unfold sum_Right.f rightS
  rw [w64_id (n := (s.size : Int) - 4) (by omega) (by omega)]
  by_cases h : s.size < 4
  · rw [if_pos (by omega), decide_eq_false (by omega)]; rfl
  rw [if_neg (by omega), decide_eq_true (by omega)]
  have hn : (s.size : Int) - 4 = ((s.size - 4 : Nat) : Int) := by omega
  rw [hn, w64_id (n := ((s.size - 4 : Nat) : Int) + 1) (by omega) (by omega), w64_id (n := ((s.size - 4 : Nat) : Int) + 2) (by omega) (by omega), w64_id (n := ((s.size - 4 : Nat) : Int) + 3) (by omega) (by omega)]
  rw [if_pos (by omega), if_pos (by omega), if_pos (by omega), if_pos (by omega), if_pos (by omega), if_pos (by omega), if_pos (by omega), if_pos (by omega), if_pos (by omega), Int.toNat_natCast]
  rw [of_eq _ (by rw [ByteArray.size_extract]; omega)]
  simp only [Option.bind_some, Bool.true_and]
  congr 1
  obtain ⟨a, b, c, d, hd⟩ := drop_four (s.data.toList.drop (s.size - 4)) (by rw [List.length_drop]; omega)
  have g : ∀ (j : Nat) (x : UInt8), [a, b, c, d][j]? = some x → bt s ((s.size - 4 + j : Nat) : Int) = (x.toNat : Int) := by
    intro j x hx
    have hj : j < 4 := by
      have := (List.getElem?_eq_some_iff.1 hx).1
      simpa using this
    rw [bt_data s _ (by omega)]
    rw [← hd, List.getElem?_drop] at hx
    rw [(List.getElem?_eq_some_iff.1 hx).2]
  have g0 := g 0 a rfl
  have g1 := g 1 b rfl
  have g2 := g 2 c rfl
  have g3 := g 3 d rfl
  rw [Nat.add_zero] at g0
  rw [show ((s.size - 4 + 1 : Nat) : Int) = ((s.size - 4 : Nat) : Int) + 1 from by omega] at g1
  rw [show ((s.size - 4 + 2 : Nat) : Int) = ((s.size - 4 : Nat) : Int) + 2 from by omega] at g2
  rw [show ((s.size - 4 + 3 : Nat) : Int) = ((s.size - 4 : Nat) : Int) + 3 from by omega] at g3
  have ha := a.toNat_lt
  have hb := b.toNat_lt
  have hc := c.toNat_lt
  have hdl := d.toNat_lt
  rw [g0, g1, g2, g3, hd]
  generalize crc 0 (s.extract 0 (s.size - 4)) = z
  have e0 : ((a.toNat : Int) % 4294967296) * 16777216 % 4294967296 = ((16777216 * a.toNat : Nat) : Int) := by omega
  have e1 : ((b.toNat : Int) % 4294967296) * 65536 % 4294967296 = ((65536 * b.toNat : Nat) : Int) := by omega
  have e2 : ((c.toNat : Int) % 4294967296) * 256 % 4294967296 = ((256 * c.toNat : Nat) : Int) := by omega
  have e3 : ((d.toNat : Int) % 4294967296) = (d.toNat : Int) := by omega
  rw [e0, e1, e2, e3]
  rw [or32 _ _ 24 (by omega) (by omega) (by omega) (by omega), or32 _ _ 16 (by omega) (by omega) (by omega) (by omega), or32 _ _ 8 (by omega) (by omega) (by omega) (by omega)]
  simp only [num, List.foldl_cons, List.foldl_nil]
  rw [Bool.eq_iff_iff]
  simp only [beq_iff_eq]
  omega
end Go.Proofs.Ytgfmdfgibkkfaaa.Sum
