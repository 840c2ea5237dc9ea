import Derived.Test.YtgfmdfgibkkfaaaKaPx1
import Derived.Test.YtgfmdfgibkkfaaaKaPx3
import Derived.Test.YtgfmdfgibkkfaaaKaOct
import Derived.Test.YtgfmdfgibkkfaaaKaSumB
set_option linter.unusedVariables false
set_option linter.unusedSimpArgs false
namespace Go.Proofs.Ytgfmdfgibkkfaaa.Frame
open Go.RowKit Go.Proofs.Ytgfmdfgibkkfaaa.P Go.Proofs.Ytgfmdfgibkkfaaa.Core Go.Proofs.Ytgfmdfgibkkfaaa.Crc Go.Proofs.Ytgfmdfgibkkfaaa.Conv Go.Proofs.Ytgfmdfgibkkfaaa.Sum Go.Proofs.Ytgfmdfgibkkfaaa.Oct Go.Proofs.YtgfmdfgibkkfaaaW.PrintWords Go.Proofs.YtgfmdfgibkkfaaaW.PrintLast Go.Proofs.YtgfmdfgibkkfaaaW.PrintMore
def headL (k : UInt8) (b : List UInt8) : List UInt8 := k :: (digs b.length 2 ++ b)
def sealL (k : UInt8) (b : List UInt8) : List UInt8 := headL k b ++ digs (crc 0 (mk (headL k b))) 4
def sealS (k : Int) (b : ByteArray) : ByteArray × Int :=
  if k < 0 ∨ 255 < k then (mk [], 1) else if 4096 < b.size then (mk [], 5) else (mk (sealL (UInt8.ofNat k.toNat) b.data.toList), 0)
theorem headL_length (k : UInt8) (b : List UInt8) : (headL k b).length = b.length + 3 := by simp [headL, digs_length]; omega
theorem sealL_length (k : UInt8) (b : List UInt8) : (sealL k b).length = b.length + 7 := by simp [sealL, headL_length, digs_length]
theorem head_mk (k : Int) (b : ByteArray) (h0 : 0 ≤ k) (h1 : k ≤ 255) : strOfNums [k % 256] ++ mk (digs b.size 2) ++ b = mk (headL (UInt8.ofNat k.toNat) b.data.toList) := by
  apply ba_ext
  have e : (k % 256).toNat = k.toNat := by omega
  simp [strOfNums, mk, headL, e]
theorem putS_four (c : Nat) (h : c < 4294967296) : putS (c : Int) 4 = (mk (digs c 4), 0) := by
  have := putS_of (n := c) (w := 4) (by omega) (by omega) (by omega)
  exact this
theorem putS_two (c : Nat) (h : c < 65536) : putS (c : Int) 2 = (mk (digs c 2), 0) := by
  have := putS_of (n := c) (w := 2) (by omega) (by omega) (by omega)
  exact this
theorem wf_nat {c : Nat} (h : c ≤ 9223372036854775807) : (Lit.int .i64 (c : Int)).wf = true := wf_i64.2 ⟨by omega, by omega⟩
theorem seal_j0 (k : Int) (b : ByteArray) (h0 : 0 ≤ k) (h1 : k ≤ 255) (hb : b.size ≤ 4096) {m : Nat} (hm : 12 ≤ m) : frame_Seal.j0 (m + 1) k b false = some (mk (sealL (UInt8.ofNat k.toNat) b.data.toList), 0) := by
  have hh := head_mk k b h0 h1
  have hz : (mk (headL (UInt8.ofNat k.toNat) b.data.toList)).size = b.size + 3 := by rw [mk_size, headL_length]; simp
  have h2 : (strOfNums [k % 256] ++ mk (digs b.size 2)).size = 3 := by rw [ByteArray.size_append, mk_size, digs_length, strOfNums_size]; rfl
  have h3 : (strOfNums [k % 256]).size = 1 := by rw [strOfNums_size]; rfl
  have h4 : (mk (digs b.size 2)).size = 2 := by rw [mk_size, digs_length]
  have hc := crc_lt 0 (mk (headL (UInt8.ofNat k.toNat) b.data.toList))
  simp only [frame_Seal.j0]
  rw [if_neg (by simp), if_neg (by omega), put_eq (wf_nat (by omega)) (by decide) hm, putS_two _ (by omega)]
  simp only [Option.bind_some]
  rw [h3, h4, h2, hh, hz]
  rw [if_pos (by omega), if_pos (by omega), of_eq _ (by omega)]
  simp only [Option.bind_some]
  rw [w64_id (by omega) (by omega), put_eq (wf_nat (by omega)) (by decide) hm, putS_four _ hc]
  simp only [Option.bind_some]
  rw [mk_size (digs _ 4), digs_length, if_pos (by omega), mk_append]
  rfl
theorem seal_eq (k : Int) (b : ByteArray) {m : Nat} (hm : 13 ≤ m) : frame_Seal.f m k b = some (sealS k b) := by
  obtain ⟨m, rfl⟩ : ∃ j, m = j + 1 := ⟨m - 1, by omega⟩
  unfold frame_Seal.f sealS
  by_cases h1 : k < 0
  · rw [if_pos h1, if_pos (.inl h1)]; simp [frame_Seal.j0, empty_mk]
  rw [if_neg h1]
  by_cases h8 : 255 < k
  · rw [if_pos (.inr h8), show decide (k > 255) = true from decide_eq_true h8]; simp [frame_Seal.j0, empty_mk]
  rw [if_neg (by omega), show decide (k > 255) = false from decide_eq_false h8]
  by_cases hb : 4096 < b.size
  · rw [if_pos hb]; simp only [frame_Seal.j0]; rw [if_neg (by simp), if_pos (by omega)]; rfl
  rw [if_neg hb]
  exact seal_j0 k b (by omega) (by omega) (by omega) (by omega)
def lenF (s : ByteArray) : Nat := num ((s.data.toList.drop 1).take 2)
def openS (s : ByteArray) : Int × ByteArray × Int :=
  if s.size < 7 then (0, mk [], 2) else if 4096 < lenF s then (0, mk [], 3) else if s.size < 7 + lenF s then (0, mk [], 2) else if 7 + lenF s < s.size then (0, mk [], 3) else
    if rightS s = true then (bt s 0, s.extract 3 (3 + lenF s), 0) else (0, mk [], 4)
theorem lenF_lt (s : ByteArray) : lenF s < 65536 := by
  unfold lenF
  have h1 := num_lt ((s.data.toList.drop 1).take 2)
  have h2 : 256 ^ ((s.data.toList.drop 1).take 2).length ≤ 256 ^ 2 := Nat.pow_le_pow_right (by omega) (by rw [List.length_take]; omega)
  omega
theorem get_two (s : ByteArray) (h : 7 ≤ s.size) : getS (s.extract 1 3) = ((lenF s : Int), 0) := by
  have hl : s.data.toList.length = s.size := by simp
  have hx : (s.extract 1 3).data.toList = (s.data.toList.drop 1).take 2 := by rw [data_extract_list, List.drop_take]
  have hz : (s.extract 1 3).size = 2 := by rw [ByteArray.size_extract]; omega
  have := lenF_lt s
  unfold getS
  rw [hx, hz, if_neg (by omega), if_neg (by unfold lenF at this; omega)]
  rfl
theorem open_eq (s : ByteArray) (hs : s.size ≤ 140737488351232) {m : Nat} (hm : 12 ≤ m) : frame_Open.f m s = some (openS s) := by
  have hlt := lenF_lt s
  unfold frame_Open.f openS
  by_cases h : s.size < 7
  · rw [if_pos (by omega), if_pos h]; rfl
  rw [if_neg (by omega), if_neg h, if_pos (by omega), if_pos (by omega), get_eq _ hm, get_two s (by omega)]
  simp only [Option.bind_some]
  by_cases h1 : 4096 < lenF s
  · rw [if_pos (by omega), if_pos h1]; rfl
  rw [if_neg (by omega), if_neg h1, w64_id (n := 7 + (lenF s : Int)) (by omega) (by omega)]
  by_cases h2 : s.size < 7 + lenF s
  · rw [if_pos (by omega), if_pos h2]; rfl
  rw [if_neg (by omega), if_neg h2]
  by_cases h3 : 7 + lenF s < s.size
  · rw [if_pos (by omega), if_pos h3]; rfl
  rw [if_neg (by omega), if_neg h3, right_eq s (by omega)]
  simp only [Option.bind_some]
  by_cases h4 : rightS s = true
  · have hb := bt_range s 0
    rw [if_pos h4, if_pos h4, if_pos (by omega), w64_id (n := 3 + (lenF s : Int)) (by omega) (by omega), if_pos (by omega), if_pos (by omega), w64_id (n := bt s 0) (by omega) (by omega)]
    rw [show (3 + (lenF s : Int)).toNat = 3 + lenF s from by omega]
  · rw [if_neg h4, if_neg h4]; rfl
theorem lenF_mk (k : UInt8) (b t : List UInt8) (h : b.length ≤ 4096) : lenF (mk (headL k b ++ t)) = b.length := by
  unfold lenF
  rw [mk_data, headL, List.cons_append, List.drop_one, List.tail_cons, List.append_assoc, List.take_append_of_le_length (by rw [digs_length]; omega), List.take_of_length_le (by rw [digs_length]; omega), num_digs _ _ (by omega)]
theorem open_head (k : UInt8) (b t : List UInt8) (h : b.length ≤ 4096) (ht : t.length = 4) : openS (mk (headL k b ++ t)) = if num t = crc 0 (mk (headL k b)) then ((k.toNat : Int), mk b, 0) else (0, mk [], 4) := by
  have hz : (mk (headL k b ++ t)).size = b.length + 7 := by rw [mk_size, List.length_append, headL_length, ht]
  unfold openS
  rw [lenF_mk k b t h, hz, if_neg (by omega), if_neg (by omega), if_neg (by omega), if_neg (by omega), rightS_mk _ _ ht]
  by_cases he : num t = crc 0 (mk (headL k b))
  · rw [if_pos (by simpa using he), if_pos he]
    have h0 : bt (mk (headL k b ++ t)) 0 = (k.toNat : Int) := by
      have := bt_data (mk (headL k b ++ t)) 0 (by omega)
      rw [show ((0 : Nat) : Int) = 0 from rfl] at this
      rw [this]
      rfl
    have hx : (mk (headL k b ++ t)).extract 3 (3 + b.length) = mk b := by
      apply ba_ext
      rw [data_extract_list, mk_data, mk_data, List.take_append_of_le_length (by rw [headL_length]; omega), List.take_of_length_le (by rw [headL_length]; omega)]
      rw [headL, show 3 = 2 + 1 from rfl, List.drop_succ_cons, List.drop_left' (digs_length _ _)]
    rw [h0, hx]
  · rw [if_neg (by simpa using he), if_neg he]
theorem open_seal (k : UInt8) (b : List UInt8) (h : b.length ≤ 4096) : openS (mk (sealL k b)) = ((k.toNat : Int), mk b, 0) := by
  unfold sealL
  rw [open_head k b _ h (digs_length _ _), num_digs4 _ (crc_lt _ _), if_pos rfl]
end Go.Proofs.Ytgfmdfgibkkfaaa.Frame
