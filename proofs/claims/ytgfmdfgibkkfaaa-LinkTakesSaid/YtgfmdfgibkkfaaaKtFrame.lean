import Derived.Test.YtgfmdfgibkkfaaaKtPx2
import Derived.Test.YtgfmdfgibkkfaaaKtPx4
import Derived.Test.YtgfmdfgibkkfaaaKtPx7
import Derived.Test.YtgfmdfgibkkfaaaKtPx8
import Derived.Test.YtgfmdfgibkkfaaaKtOct
import Derived.Test.YtgfmdfgibkkfaaaKtSumB
set_option linter.unusedVariables false
set_option linter.unusedSimpArgs false
namespace Go.Proofs.Ytgfmdfgibkkfaaa.Frame
open Go.RowKit Go.Proofs.Ytgfmdfgibkkfaaa.P Go.Proofs.Ytgfmdfgibkkfaaa.Core Go.Proofs.Ytgfmdfgibkkfaaa.Crc Go.Proofs.Ytgfmdfgibkkfaaa.Conv Go.Proofs.Ytgfmdfgibkkfaaa.Sum Go.Proofs.Ytgfmdfgibkkfaaa.Oct Go.Proofs.YtgfmdfgibkkfaaaW.PrintWords Go.Proofs.YtgfmdfgibkkfaaaW.PrintLast Go.Proofs.YtgfmdfgibkkfaaaW.PrintMore
def headL (k : UInt8) (b : List UInt8) : List UInt8 := k :: (digs b.length 2 ++ b)
def sealL (k : UInt8) (b : List UInt8) : List UInt8 := headL k b ++ digs (crc 0 (mk (headL k b))) 4
def sealS (k : Int) (b : ByteArray) : ByteArray × Int :=
  if k < 0 ∨ 255 < k then (mk [], 1) else if 4096 < b.size then (mk [], 5) else (mk (sealL (UInt8.ofNat k.toNat) b.data.toList), 0)
theorem headL_length (k : UInt8) (b : List UInt8) : (headL k b).length = b.length + 3 := by simp [headL, digs_length]; omega
theorem sealL_length (k : UInt8) (b : List UInt8) : (sealL k b).length = b.length + 7 := by simp [sealL, headL_length, digs_length]
theorem head_mk (k : Int) (b : ByteArray) (h0 : 0 ≤ k) (h1 : k ≤ 255) : strOfNums [k % 256] ++ mk (digs b.size 2) ++ b = mk (headL (UInt8.ofNat k.toNat) b.data.toList) := by
  apply ba_ext
  have e : (k % 256).toNat = k.toNat := by omega
  simp [strOfNums, mk, headL, e]
theorem putS_four (c : Nat) (h : c < 4294967296) : putS (c : Int) 4 = (mk (digs c 4), 0) := by
  have := putS_of (n := c) (w := 4) (by omega) (by omega) (by omega)
  exact this
theorem putS_two (c : Nat) (h : c < 65536) : putS (c : Int) 2 = (mk (digs c 2), 0) := by
  have := putS_of (n := c) (w := 2) (by omega) (by omega) (by omega)
  exact this
theorem wf_nat {c : Nat} (h : c ≤ 9223372036854775807) : (Lit.int .i64 (c : Int)).wf = true := wf_i64.2 ⟨by omega, by omega⟩
theorem seal_j0 (k : Int) (b : ByteArray) (h0 : 0 ≤ k) (h1 : k ≤ 255) (hb : b.size ≤ 4096) {m : Nat} (hm : 12 ≤ m) : frame_Seal.j0 (m + 1) k b false = some (mk (sealL (UInt8.ofNat k.toNat) b.data.toList), 0) := by
  have hh := head_mk k b h0 h1
  have hz : (mk (headL (UInt8.ofNat k.toNat) b.data.toList)).size = b.size + 3 := by rw [mk_size, headL_length]; simp
  have h2 : (strOfNums [k % 256] ++ mk (digs b.size 2)).size = 3 := by rw [ByteArray.size_append, mk_size, digs_length, strOfNums_size]; rfl
  have h3 : (strOfNums [k % 256]).size = 1 := by rw [strOfNums_size]; rfl
  have h4 : (mk (digs b.size 2)).size = 2 := by rw [mk_size, digs_length]
  have hc := crc_lt 0 (mk (headL (UInt8.ofNat k.toNat) b.data.toList))
  simp only [frame_Seal.j0]
  rw [if_neg (by simp), if_neg (by omega), put_eq (wf_nat (by omega)) (by decide) hm, putS_two _ (by omega)]
  simp only [Option.bind_some]
  rw [h3, h4, h2, hh, hz]
  rw [if_pos (by omega), if_pos (by omega), of_eq _ (by omega)]
  simp only [Option.bind_some]
  rw [w64_id (by omega) (by omega), put_eq (wf_nat (by omega)) (by decide) hm, putS_four _ hc]
  simp only [Option.bind_some]
  rw [mk_size (digs _ 4), digs_length, if_pos (by omega), mk_append]
  rfl
theorem seal_eq (k : Int) (b : ByteArray) {m : Nat} (hm : 13 ≤ m) : frame_Seal.f m k b = some (sealS k b) := by
  obtain ⟨m, rfl⟩ : ∃ j, m = j + 1 := ⟨m - 1, by omega⟩
  unfold frame_Seal.f sealS
  by_cases h1 : k < 0
  · rw [if_pos h1, if_pos (.inl h1)]; simp [frame_Seal.j0, empty_mk]
  rw [if_neg h1]
  by_cases h8 : 255 < k
  · rw [if_pos (.inr h8), show decide (k > 255) = true from decide_eq_true h8]; simp [frame_Seal.j0, empty_mk]
  rw [if_neg (by omega), show decide (k > 255) = false from decide_eq_false h8]
  by_cases hb : 4096 < b.size
  · rw [if_pos hb]; simp only [frame_Seal.j0]; rw [if_neg (by simp), if_pos (by omega)]; rfl
  rw [if_neg hb]
  exact seal_j0 k b (by omega) (by omega) (by omega) (by omega)
theorem head_mk3 (k : Int) (b : ByteArray) (h0 : 0 ≤ k) (h1 : k ≤ 255) (hb : b.size ≤ 4096) : strOfNums [k % 256, wrap64 ((b.size : Int) / 256) % 256, (b.size : Int) % 256] ++ b = mk (headL (UInt8.ofNat k.toNat) b.data.toList) := by
  rw [w64_id (by omega) (by omega)]
  apply ba_ext
  have e : (k % 256).toNat = k.toNat := by omega
  have e1 : ((b.size : Int) / 256 % 256).toNat = b.size / 256 % 256 := by omega
  have e2 : ((b.size : Int) % 256).toNat = b.size % 256 := by omega
  have u : ∀ n : Nat, UInt8.ofNat (n % 256) = UInt8.ofNat n := fun n => by apply UInt8.toNat_inj.1; simp
  simp [strOfNums, mk, headL, e, e1, e2, u, digs]
theorem rseal_j0 (k : Int) (b : ByteArray) (h0 : 0 ≤ k) (h1 : k ≤ 255) (hb : b.size ≤ 4096) {m : Nat} (hm : 50000 ≤ m) : counterfoilref03_Seal.j0 (m + 1) k b false = some (mk (sealL (UInt8.ofNat k.toNat) b.data.toList), 0) := by
  have hh := head_mk3 k b h0 h1 hb
  have hz : (mk (headL (UInt8.ofNat k.toNat) b.data.toList)).size = b.size + 3 := by rw [mk_size, headL_length]; simp
  have hc := crc_lt 0 (mk (headL (UInt8.ofNat k.toNat) b.data.toList))
  have hon := ron_eq 0 (mk (headL (UInt8.ofNat k.toNat) b.data.toList)) (by omega) (by omega) (k := m) (by omega)
  rw [show ((0 : Nat) : Int) = 0 from rfl] at hon
  have hs : (strOfNums [k % 256, wrap64 ((b.size : Int) / 256) % 256, (b.size : Int) % 256]).size = 3 := by rw [strOfNums_size]; rfl
  simp only [counterfoilref03_Seal.j0]
  rw [if_neg (by simp), if_neg (by omega)]
  simp only [Option.bind_some]
  rw [hs, if_pos (by omega), hh, hon]
  simp only [Option.bind_some]
  rw [four_eq _ hc]
  simp only [Option.bind_some]
  rw [mk_size (digs _ 4), digs_length, hz, if_pos (by omega), mk_append]
  rfl
theorem rseal_eq (k : Int) (b : ByteArray) {m : Nat} (hm : 50001 ≤ m) : counterfoilref03_Seal.f m k b = some (sealS k b) := by
  obtain ⟨m, rfl⟩ : ∃ j, m = j + 1 := ⟨m - 1, by omega⟩
  unfold counterfoilref03_Seal.f sealS
  by_cases h1 : k < 0
  · rw [if_pos h1, if_pos (.inl h1)]; simp [counterfoilref03_Seal.j0, empty_mk]
  rw [if_neg h1]
  by_cases h8 : 255 < k
  · rw [if_pos (.inr h8), show decide (k > 255) = true from decide_eq_true h8]; simp [counterfoilref03_Seal.j0, empty_mk]
  rw [if_neg (by omega), show decide (k > 255) = false from decide_eq_false h8]
  by_cases hb : 4096 < b.size
  · rw [if_pos hb]; simp only [counterfoilref03_Seal.j0]; rw [if_neg (by simp), if_pos (by omega)]; rfl
  rw [if_neg hb]
  exact rseal_j0 k b (by omega) (by omega) (by omega) (by omega)
def lenF (s : ByteArray) : Nat := num ((s.data.toList.drop 1).take 2)
def openS (s : ByteArray) : Int × ByteArray × Int :=
  if s.size < 7 then (0, mk [], 2) else if 4096 < lenF s then (0, mk [], 3) else if s.size < 7 + lenF s then (0, mk [], 2) else if 7 + lenF s < s.size then (0, mk [], 3) else
    if rightS s = true then (bt s 0, s.extract 3 (3 + lenF s), 0) else (0, mk [], 4)
theorem lenF_lt (s : ByteArray) : lenF s < 65536 := by
  unfold lenF
  have h1 := num_lt ((s.data.toList.drop 1).take 2)
  have h2 : 256 ^ ((s.data.toList.drop 1).take 2).length ≤ 256 ^ 2 := Nat.pow_le_pow_right (by omega) (by rw [List.length_take]; omega)
  omega
theorem get_two (s : ByteArray) (h : 7 ≤ s.size) : getS (s.extract 1 3) = ((lenF s : Int), 0) := by
  have hl : s.data.toList.length = s.size := by simp
  have hx : (s.extract 1 3).data.toList = (s.data.toList.drop 1).take 2 := by rw [data_extract_list, List.drop_take]
  have hz : (s.extract 1 3).size = 2 := by rw [ByteArray.size_extract]; omega
  have := lenF_lt s
  unfold getS
  rw [hx, hz, if_neg (by omega), if_neg (by unfold lenF at this; omega)]
  rfl
theorem open_eq (s : ByteArray) (hs : s.size ≤ 140737488351232) {m : Nat} (hm : 12 ≤ m) : frame_Open.f m s = some (openS s) := by
  have hlt := lenF_lt s
  unfold frame_Open.f openS
  by_cases h : s.size < 7
  · rw [if_pos (by omega), if_pos h]; rfl
  rw [if_neg (by omega), if_neg h, if_pos (by omega), if_pos (by omega), get_eq _ hm, get_two s (by omega)]
  simp only [Option.bind_some]
  by_cases h1 : 4096 < lenF s
  · rw [if_pos (by omega), if_pos h1]; rfl
  rw [if_neg (by omega), if_neg h1, w64_id (n := 7 + (lenF s : Int)) (by omega) (by omega)]
  by_cases h2 : s.size < 7 + lenF s
  · rw [if_pos (by omega), if_pos h2]; rfl
  rw [if_neg (by omega), if_neg h2]
  by_cases h3 : 7 + lenF s < s.size
  · rw [if_pos (by omega), if_pos h3]; rfl
  rw [if_neg (by omega), if_neg h3, right_eq s (by omega)]
  simp only [Option.bind_some]
  by_cases h4 : rightS s = true
  · have hb := bt_range s 0
    rw [if_pos h4, if_pos h4, if_pos (by omega), w64_id (n := 3 + (lenF s : Int)) (by omega) (by omega), if_pos (by omega), if_pos (by omega), w64_id (n := bt s 0) (by omega) (by omega)]
    rw [show (3 + (lenF s : Int)).toNat = 3 + lenF s from by omega]
  · rw [if_neg h4, if_neg h4]; rfl
theorem take_one : ∀ (l : List UInt8) (h : 1 ≤ l.length), l.take 1 = [l[0]'(by omega)]
  | [], h => by simp at h
  | _ :: _, _ => by simp
theorem parts (s : ByteArray) (h : s.size = 7 + lenF s) : ∃ (b : List UInt8) (t : List UInt8), s = mk ((UInt8.ofNat (bt s 0).toNat) :: (digs b.length 2 ++ b) ++ t) ∧ b.length = lenF s ∧ t.length = 4 ∧ s.extract 3 (3 + lenF s) = mk b := by
  have hl : s.data.toList.length = s.size := by simp
  have hlt := lenF_lt s
  refine ⟨(s.data.toList.drop 3).take (lenF s), s.data.toList.drop (3 + lenF s), ?_, ?_, ?_, ?_⟩
  · have hb : ((s.data.toList.drop 3).take (lenF s)).length = lenF s := by rw [List.length_take, List.length_drop]; omega
    have h2 : digs ((s.data.toList.drop 3).take (lenF s)).length 2 = (s.data.toList.drop 1).take 2 := by
      rw [hb]
      have := digs_num ((s.data.toList.drop 1).take 2)
      rw [show ((s.data.toList.drop 1).take 2).length = 2 from by rw [List.length_take, List.length_drop]; omega] at this
      exact this
    have h0 : s.data.toList.take 1 = [UInt8.ofNat (bt s 0).toNat] := by
      have := bt_data s 0 (by omega)
      rw [show ((0 : Nat) : Int) = 0 from rfl] at this
      rw [this, take_one _ (by omega)]
      simp
    apply ba_ext
    rw [mk_data, h2]
    have a1 : s.data.toList = s.data.toList.take 1 ++ s.data.toList.drop 1 := (List.take_append_drop 1 _).symm
    have a2 : s.data.toList.drop 1 = (s.data.toList.drop 1).take 2 ++ s.data.toList.drop 3 := by
      conv => lhs; rw [← List.take_append_drop 2 (s.data.toList.drop 1)]
      rw [List.drop_drop]
    have a3 : s.data.toList.drop 3 = (s.data.toList.drop 3).take (lenF s) ++ s.data.toList.drop (3 + lenF s) := by
      conv => lhs; rw [← List.take_append_drop (lenF s) (s.data.toList.drop 3)]
      rw [List.drop_drop]
    conv => lhs; rw [a1, a2, a3, h0]
    simp
  · rw [List.length_take, List.length_drop]; omega
  · rw [List.length_drop]; omega
  · apply ba_ext
    rw [data_extract_list, mk_data, List.drop_take]
    congr 1
    omega
theorem right_seal (s : ByteArray) (h : s.size = 7 + lenF s) (hn : lenF s ≤ 4096) : rightS s = true ↔ (sealS (bt s 0) (s.extract 3 (3 + lenF s))).1 = s := by
  obtain ⟨b, t, hs, hb, ht, hx⟩ := parts s h
  have hr := bt_range s 0
  have he : sealS (bt s 0) (mk b) = (mk (sealL (UInt8.ofNat (bt s 0).toNat) b), 0) := by
    unfold sealS
    rw [if_neg (by omega), mk_size, if_neg (by omega), mk_data]
  rw [hx, he]
  generalize UInt8.ofNat (bt s 0).toNat = k at *
  have hh : headL k b = k :: (digs b.length 2 ++ b) := rfl
  rw [← hh] at hs
  constructor
  · intro hr
    rw [hs, rightS_mk _ _ ht, beq_iff_eq] at hr
    rw [hs, mk_inj, sealL, ← hr]
    have := digs_num t
    rw [ht] at this
    rw [this]
  · intro e
    rw [← e]
    show rightS (mk (headL k b ++ _)) = true
    rw [rightS_mk _ _ (digs_length _ _), num_digs4 _ (crc_lt _ _)]
    simp
theorem bt_len (s : ByteArray) (h : 7 ≤ s.size) : wrap64 (wrap64 (256 * wrap64 (bt s 1)) + wrap64 (bt s 2)) = (lenF s : Int) := by
  have hl : s.data.toList.length = s.size := by simp
  have h1 := bt_data s 1 (by omega)
  have h2 := bt_data s 2 (by omega)
  rw [show ((1 : Nat) : Int) = 1 from rfl] at h1
  rw [show ((2 : Nat) : Int) = 2 from rfl] at h2
  have e : (s.data.toList.drop 1).take 2 = [s.data.toList[1]'(by omega), s.data.toList[2]'(by omega)] := by
    rw [List.drop_eq_getElem_cons (show 1 < s.data.toList.length by omega), List.drop_eq_getElem_cons (show 1 + 1 < s.data.toList.length by omega)]
    rfl
  have b1 := (s.data.toList[1]'(by omega)).toNat_lt
  have b2 := (s.data.toList[2]'(by omega)).toNat_lt
  rw [h1, h2]
  unfold lenF
  rw [e]
  simp only [num, List.foldl_cons, List.foldl_nil]
  unfold wrap64
  omega
theorem ropen_eq (s : ByteArray) (hs : s.size ≤ 140737488351232) {m : Nat} (hm : 50001 ≤ m) : counterfoilref03_Open.f m s = some (openS s) := by
  have hlt := lenF_lt s
  unfold counterfoilref03_Open.f openS
  by_cases h : s.size < 7
  · rw [if_pos (by omega), if_pos h]; rfl
  rw [if_neg (by omega), if_neg h, if_pos (by omega), if_pos (by omega), bt_len s (by omega), w64_id (n := (s.size : Int) - 7) (by omega) (by omega), w64_id (n := 3 + (lenF s : Int)) (by omega) (by omega)]
  by_cases h1 : 4096 < lenF s
  · rw [if_pos (by omega), if_pos h1]; rfl
  rw [if_neg (by omega), if_neg h1]
  by_cases h2 : s.size < 7 + lenF s
  · rw [if_pos (by omega), if_pos h2]; rfl
  rw [if_neg (by omega), if_neg h2]
  by_cases h3 : 7 + lenF s < s.size
  · rw [if_pos (by omega), if_pos h3]; rfl
  have hb := bt_range s 0
  have hrs := right_seal s (by omega) (by omega)
  rw [if_neg (by omega), if_neg h3, if_pos (by omega), if_pos (by omega), if_pos (by omega), w64_id (n := bt s 0) (by omega) (by omega), rseal_eq _ _ hm]
  simp only [Option.bind_some]
  rw [show (3 + (lenF s : Int)).toNat = 3 + lenF s from by omega]
  by_cases h4 : rightS s = true
  · rw [if_pos h4, if_pos (by rw [hrs.1 h4])]
  · rw [if_neg h4, if_neg (fun e => h4 (hrs.2 (ba_inj.1 e)))]; rfl
end Go.Proofs.Ytgfmdfgibkkfaaa.Frame
