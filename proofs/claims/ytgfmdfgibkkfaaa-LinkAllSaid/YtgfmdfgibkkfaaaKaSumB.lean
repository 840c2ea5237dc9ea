import Derived.Test.YtgfmdfgibkkfaaaKaSum
import Derived.Test.YtgfmdfgibkkfaaaKaConv
set_option linter.unusedVariables false
set_option linter.unusedSimpArgs false
namespace Go.Proofs.Ytgfmdfgibkkfaaa.Sum
open Go.RowKit Go.Proofs.Ytgfmdfgibkkfaaa.P Go.Proofs.Ytgfmdfgibkkfaaa.Core Go.Proofs.Ytgfmdfgibkkfaaa.Crc Go.Proofs.Ytgfmdfgibkkfaaa.Conv Go.Proofs.YtgfmdfgibkkfaaaW.PrintWords Go.Proofs.YtgfmdfgibkkfaaaW.PrintLast Go.Proofs.YtgfmdfgibkkfaaaW.PrintMore
def ints (l : List UInt8) : List Int := l.map fun b => (b.toNat : Int)
theorem bytesOf_ints (s : ByteArray) : bytesOf s = ints s.data.toList := rfl
theorem nums_ints (l : List UInt8) : strOfNums (ints l) = mk l := by
  rw [strOfNums_mk, mk_inj]
  unfold ints
  rw [List.map_map]
  conv => rhs; rw [← List.map_id l]
  apply List.map_congr_left
  intro b _
  simp
theorem ints_set (l : List UInt8) (i : Nat) (y : UInt8) : (ints l).set i (y.toNat : Int) = ints (l.set i y) := by
  unfold ints
  rw [List.map_set]
theorem xor_byte (a b : UInt8) : Go.bits .xor .u8 (a.toNat : Int) (b.toNat : Int) = ((a ^^^ b).toNat : Int) := by
  rw [bits_xor8 _ _ a.toNat_lt b.toNat_lt, UInt8.toNat_xor]
theorem split_set (l : List UInt8) (i : Nat) (h : i < l.length) (y : UInt8) : l = l.take i ++ l[i] :: l.drop (i + 1) ∧ l.set i y = l.take i ++ y :: l.drop (i + 1) := by
  refine ⟨?_, ?_⟩
  · rw [List.getElem_cons_drop, List.take_append_drop]
  · rw [List.set_eq_take_append_cons_drop, if_pos h]
theorem crc_one (l : List UInt8) (i : Nat) (h : i < l.length) (y : UInt8) : crc 0 (mk (l.set i (l[i] ^^^ y))) = crc 0 (mk l) ↔ y = 0 := by
  constructor
  · intro he
    have h2 := crc_inj he
    rw [mk_data, mk_data, (split_set l i h (l[i] ^^^ y)).2] at h2
    conv at h2 => rhs; rw [(split_set l i h y).1]
    rw [crcL_append, crcL_append] at h2
    exact one_turned (crcL_lt _ (by omega)) _ _ _ h2.symm
  · intro h0
    rw [h0, UInt8.xor_zero, List.set_getElem_self]
theorem rightS_mk (l m : List UInt8) (hm : m.length = 4) : rightS (mk (l ++ m)) = (num m == crc 0 (mk l)) := by
  have hx : (mk (l ++ m)).extract 0 l.length = mk l := by
    rw [← mk_append]
    exact ByteArray.extract_append_eq_left (by rw [mk_size])
  unfold rightS
  rw [mk_size, List.length_append, hm, show l.length + 4 - 4 = l.length from by omega, mk_data, List.drop_left, hx, decide_eq_true (by omega), Bool.true_and]
theorem num_inj {l m : List UInt8} (h : l.length = m.length) (he : num l = num m) : l = m := by
  rw [← digs_num l, ← digs_num m, h, he]
end Go.Proofs.Ytgfmdfgibkkfaaa.Sum
