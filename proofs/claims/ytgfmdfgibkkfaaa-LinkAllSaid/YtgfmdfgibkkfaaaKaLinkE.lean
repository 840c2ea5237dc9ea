import Derived.Test.YtgfmdfgibkkfaaaKaPx4
import Derived.Test.YtgfmdfgibkkfaaaKaLinkD
import Derived.Test.YtgfmdfgibkkfaaaKaTurned
import Derived.Test.YtgfmdfgibkkfaaaKaEndsU
set_option linter.unusedVariables false
set_option linter.unusedSimpArgs false
namespace Go.Proofs.Ytgfmdfgibkkfaaa.Link
open Go.RowKit Go.Proofs.Ytgfmdfgibkkfaaa.P Go.Proofs.Ytgfmdfgibkkfaaa.Core Go.Proofs.Ytgfmdfgibkkfaaa.Crc Go.Proofs.Ytgfmdfgibkkfaaa.Conv Go.Proofs.Ytgfmdfgibkkfaaa.Sum Go.Proofs.Ytgfmdfgibkkfaaa.Oct Go.Proofs.Ytgfmdfgibkkfaaa.Frame Go.Proofs.YtgfmdfgibkkfaaaW.PrintWords Go.Proofs.YtgfmdfgibkkfaaaW.PrintLast Go.Proofs.YtgfmdfgibkkfaaaW.PrintMore
theorem cut_mid (A B C : List UInt8) (i : Nat) (hA : A.length = 8 * i) (hB : B.length = 8) (b : ByteArray) (hb : b.data.toList = A ++ (B ++ C)) : b.extract (8 * i) (8 * i + 8) = mk B := by
  apply ba_ext
  rw [data_extract_list, hb, mk_data, List.drop_take, List.drop_left' hA, show 8 * i + 8 - 8 * i = 8 by omega, List.take_left' hB]
theorem body_list (a o n w : Nat) (s : ByteArray) : (bodyS a o n w s).data.toList = digs a 8 ++ (digs o 8 ++ (digs n 8 ++ (digs w 8 ++ s.data.toList))) := by
  unfold bodyS
  simp [mk]
theorem w8_digs {x : Nat} {b : ByteArray} {i : Nat} (hx : x ≤ 9223372036854775807) (h : b.extract (8 * i) (8 * i + 8) = mk (digs x 8)) : w8 b i = ((x : Int), 0) := by
  unfold w8
  rw [h]
  exact getS_digs (by omega) (by omega) (by omega) hx
theorem body_w (a o n w : Nat) (s : ByteArray) (ha : a ≤ 9223372036854775807) (ho : o ≤ 9223372036854775807) (hn : n ≤ 9223372036854775807) (hw : w ≤ 9223372036854775807) :
    w8 (bodyS a o n w s) 0 = ((a : Int), 0) ∧ w8 (bodyS a o n w s) 1 = ((o : Int), 0) ∧ w8 (bodyS a o n w s) 2 = ((n : Int), 0) ∧ w8 (bodyS a o n w s) 3 = ((w : Int), 0) ∧ (bodyS a o n w s).extract 32 (bodyS a o n w s).size = s := by
  have hb := body_list a o n w s
  have hz := bodyS_size a o n w s
  refine ⟨w8_digs ha (cut_mid [] (digs a 8) _ 0 rfl (digs_length _ _) _ hb), w8_digs ho (cut_mid (digs a 8) (digs o 8) _ 1 (digs_length _ _) (digs_length _ _) _ hb), w8_digs hn (cut_mid (digs a 8 ++ digs o 8) (digs n 8) (digs w 8 ++ s.data.toList) 2 (by simp [digs_length]) (digs_length _ _) _ (by rw [hb]; simp)), w8_digs hw (cut_mid (digs a 8 ++ digs o 8 ++ digs n 8) (digs w 8) s.data.toList 3 (by simp [digs_length]) (digs_length _ _) _ (by rw [hb]; simp)), ?_⟩
  apply ba_ext
  rw [data_extract_list, List.take_of_length_le (by have : (bodyS a o n w s).data.toList.length = (bodyS a o n w s).size := by simp
                                                    omega), hb]
  have : digs a 8 ++ (digs o 8 ++ (digs n 8 ++ (digs w 8 ++ s.data.toList))) = (digs a 8 ++ digs o 8 ++ digs n 8 ++ digs w 8) ++ s.data.toList := by simp
  rw [this, List.drop_left' (by simp [digs_length])]
theorem packetS_list (kind : Int) (hk : kind = 1 ∨ kind = 2) (a o n w : Nat) (t : ByteArray) (ht : t.size ≤ 512) : packetS kind a o n w t = mk (sealL (UInt8.ofNat kind.toNat) (bodyS a o n w t).data.toList) := by
  have hz := bodyS_size a o n w t
  unfold packetS sealS
  rw [if_neg (by omega), if_neg (by omega)]
theorem packetS_size2 (kind : Int) (hk : kind = 1 ∨ kind = 2) (a o n w : Nat) (t : ByteArray) (ht : t.size ≤ 512) : (packetS kind a o n w t).size = 39 + t.size := by
  have hz := bodyS_size a o n w t
  have h2 : (bodyS a o n w t).data.toList.length = (bodyS a o n w t).size := by simp
  rw [packetS_list kind hk a o n w t ht, mk_size, sealL_length]
  omega
theorem packetS_opens (kind : Int) (hk : kind = 1 ∨ kind = 2) (a o n w : Nat) (t : ByteArray) (ht : t.size ≤ 512) : openS (packetS kind a o n w t) = (kind, bodyS a o n w t, 0) := by
  have hz := bodyS_size a o n w t
  have h2 : (bodyS a o n w t).data.toList.length = (bodyS a o n w t).size := by simp
  rw [packetS_list kind hk a o n w t ht, open_seal _ _ (by omega), data_mk]
  rcases hk with rfl | rfl <;> rfl
theorem hear_packet (kind : Int) (hk : kind = 1 ∨ kind = 2) (a o n w : Nat) (t : ByteArray) (ht : t.size ≤ 512) (ha : 1 ≤ a) (ha2 : a ≤ 1099511627776) (ho : o ≤ 9223372036854775807) (hn : n ≤ 9223372036854775807) (hw : w ≤ 9223372036854775807)
    (h2 : kind = 2 → n = 0 ∧ t = mk []) : hearS (packetS kind a o n w t) = some ⟨kind, a, o, n, w, t⟩ := by
  obtain ⟨w0, w1, w2, w3, hx⟩ := body_w a o n w t (by omega) ho hn hw
  have hop := packetS_opens kind hk a o n w t ht
  have hg : goodB (bodyS a o n w t) := ⟨by rw [bodyS_size]; omega, by rw [w0], by rw [w1], by rw [w2], by rw [w3]⟩
  have hok : link_read.ok kind (a : Int) (n : Int) t = true := by
    unfold link_read.ok
    have e1 : decide (t.size ≤ 512) = true := decide_eq_true ht
    have e2 : decide (1 ≤ (a : Int) ∧ (a : Int) ≤ 1099511627776) = true := decide_eq_true (by omega)
    rw [e1, e2]
    rcases hk with rfl | rfl
    · rfl
    · obtain ⟨rfl, rfl⟩ := h2 rfl
      rfl
  unfold hearS
  rw [hop]
  dsimp only
  rw [w0, w1, w2, w3, hx]
  dsimp only
  rw [if_pos ⟨rfl, hk, hg, hok⟩]
  rfl
theorem hear_turned (kind : Int) (hk : kind = 1 ∨ kind = 2) (a o n w : Nat) (t : ByteArray) (ht : t.size ≤ 512) (m : Nat) (hm : m < (packetS kind a o n w t).size) : hearS (turnS (packetS kind a o n w t) m) = none := by
  have hl := packetS_list kind hk a o n w t ht
  rw [hl] at hm ⊢
  rw [mk_size] at hm
  generalize hb : (bodyS a o n w t).data.toList = b at *
  generalize UInt8.ofNat kind.toNat = k at *
  have hx : turnS (mk (sealL k b)) m = mk ((sealL k b).set m ((sealL k b)[m] ^^^ 1)) := by
    unfold turnS
    rw [bytesOf_ints, bt_data _ m (by rw [mk_size]; exact hm)]
    simp only [mk_data]
    have := xor_byte (sealL k b)[m] 1
    rw [show ((1 : UInt8).toNat : Int) = 1 from rfl] at this
    rw [this, ints_set, nums_ints]
  rw [hx]
  obtain ⟨e, ho, hne⟩ := open_wrong _ (seal_turned k b m 1 (by decide) hm)
  unfold hearS
  rw [ho, if_neg (fun h => hne h.1)]
theorem turnS_size (s : ByteArray) (m : Nat) : (turnS s m).size = s.size := by
  unfold turnS
  rw [strOfNums_size, List.length_set]
  simp [bytesOf]
end Go.Proofs.Ytgfmdfgibkkfaaa.Link
