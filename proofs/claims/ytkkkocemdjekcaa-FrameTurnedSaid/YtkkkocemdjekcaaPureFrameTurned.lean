/- For all kinds, bodies, places and bytes, FrameTurned answers true: of a frame of which one byte is turned nothing is told. -/
import Derived.Test.YtkkkocemdjekcaaPx1
import Derived.Test.YtkkkocemdjekcaaPx2
import Derived.Test.YtkkkocemdjekcaaFrameA
import Derived.Test.YtkkkocemdjekcaaSumC
import Derived.Test.YtkkkocemdjekcaaHFrameTurned
namespace Go.Proofs.Ytkkkocemdjekcaa.Pure
open Go.RowKit Go.Proofs.Ytkkkocemdjekcaa.P Go.Proofs.Ytkkkocemdjekcaa.Core Go.Proofs.Ytkkkocemdjekcaa.Crc Go.Proofs.Ytkkkocemdjekcaa.Conv Go.Proofs.Ytkkkocemdjekcaa.Sum Go.Proofs.Ytkkkocemdjekcaa.Oct Go.Proofs.Ytkkkocemdjekcaa.Frame Go.Proofs.YtkkkocemdjekcaaW.PrintWords Go.Proofs.YtkkkocemdjekcaaW.PrintLast Go.Proofs.YtkkkocemdjekcaaW.PrintMore
set_option linter.unusedVariables false
set_option linter.unusedSimpArgs false

theorem open_wrong (s : ByteArray) (h : rightS s = false) : ∃ e, openS s = (0, mk [], e) ∧ e ≠ 0 := by
  unfold openS
  by_cases h1 : s.size < 7
  · rw [if_pos h1]; exact ⟨2, rfl, by omega⟩
  rw [if_neg h1]
  by_cases h2 : 4096 < lenF s
  · rw [if_pos h2]; exact ⟨3, rfl, by omega⟩
  rw [if_neg h2]
  by_cases h3 : s.size < 7 + lenF s
  · rw [if_pos h3]; exact ⟨2, rfl, by omega⟩
  rw [if_neg h3]
  by_cases h4 : 7 + lenF s < s.size
  · rw [if_pos h4]; exact ⟨3, rfl, by omega⟩
  rw [if_neg h4, h, if_neg (by simp)]
  exact ⟨4, rfl, by omega⟩
theorem seal_turned (k : UInt8) (b : List UInt8) (i : Nat) (y : UInt8) (hy : y ≠ 0) (hi : i < (sealL k b).length) : rightS (mk ((sealL k b).set i ((sealL k b)[i] ^^^ y))) = false :=
  turned_wrong (mk (headL k b)) i y hy hi
theorem turned_last (k : Nat) (a0 : Int) (a1 : ByteArray) (a2 : Int) (a3 : Int) (s : ByteArray) (t : ByteArray) (e : Int) (h1 : frame_Seal.f k a0 a1 = some (s, 0)) (c1 : ¬ a2 < 0) (c2 : ¬ a2 ≥ (s.size : Int)) (c3 : ¬ a3 = 0) (hz : s.size ≤ 140737488351232)
    (ht : strOfNums ((bytesOf s).set a2.toNat (Go.bits .xor .u8 (bt s a2) a3)) = t) (h2 : frame_Open.f k t = some (0, mk [], e)) (he : e ≠ 0) (ha : counterfoillaw03_awake.f k = some true) : counterfoillaw03_FrameTurned.f k a0 a1 a2 a3 = some true := by
  unfold counterfoillaw03_FrameTurned.f
  rw [h1]
  simp only [Option.bind_some]
  rw [if_pos trivial, if_neg c1, if_neg c2, if_neg c3, if_pos hz, ht, h2]
  simp only [Option.bind_some]
  rw [if_pos trivial, if_pos (by simp [ByteArray.toList_eq, mk]), if_neg he, ha]
theorem FrameTurned : counterfoillaw03_FrameTurned.Pure := by
  intro k b i y hk hb hi hy
  have hy2 : 0 ≤ y ∧ y ≤ 255 := by simpa [Lit.wf, IntKind.min, IntKind.max, IntKind.signed, IntKind.bits] using hy
  obtain ⟨y, rfl⟩ := byte_of hy2.1 hy2.2
  refine ⟨20, ?_⟩
  have hs := seal_eq k b (m := 20) (by omega)
  by_cases he : (sealS k b).2 = 0
  · obtain ⟨h0, h1, h2, h3⟩ := sealS_ok he
    have hs2 : frame_Seal.f 20 k b = some (mk (sealL (UInt8.ofNat k.toNat) b.data.toList), 0) := by rw [hs, ← h3, ← he]
    have hl : b.data.toList.length = b.size := by simp
    have hz : (mk (sealL (UInt8.ofNat k.toNat) b.data.toList)).size = b.size + 7 := by rw [mk_size, sealL_length, hl]
    by_cases c1 : i < 0
    · unfold counterfoillaw03_FrameTurned.f
      rw [hs2]
      simp only [Option.bind_some]
      rw [if_pos trivial, if_pos c1, awake_eq (by omega)]
    by_cases c2 : i ≥ ((mk (sealL (UInt8.ofNat k.toNat) b.data.toList)).size : Int)
    · unfold counterfoillaw03_FrameTurned.f
      rw [hs2]
      simp only [Option.bind_some]
      rw [if_pos trivial, if_neg c1, if_pos c2, awake_eq (by omega)]
    by_cases c3 : (y.toNat : Int) = 0
    · unfold counterfoillaw03_FrameTurned.f
      rw [hs2]
      simp only [Option.bind_some]
      rw [if_pos trivial, if_neg c1, if_neg c2, if_pos c3, awake_eq (by omega)]
    have hy0 : y ≠ 0 := fun h => c3 (by rw [h]; rfl)
    obtain ⟨i, rfl⟩ := Int.eq_ofNat_of_zero_le (show 0 ≤ i by omega)
    have hlt : i < (sealL (UInt8.ofNat k.toNat) b.data.toList).length := by rw [sealL_length, hl]; omega
    have ht : strOfNums ((bytesOf (mk (sealL (UInt8.ofNat k.toNat) b.data.toList))).set (i : Int).toNat (Go.bits .xor .u8 (bt (mk (sealL (UInt8.ofNat k.toNat) b.data.toList)) (i : Int)) (y.toNat : Int))) = mk ((sealL (UInt8.ofNat k.toNat) b.data.toList).set i ((sealL (UInt8.ofNat k.toNat) b.data.toList)[i] ^^^ y)) := by
      rw [Int.toNat_natCast, bytesOf_ints, bt_data _ i (by omega)]
      simp only [mk_data]
      rw [xor_byte, ints_set, nums_ints]
    have hw := seal_turned (UInt8.ofNat k.toNat) b.data.toList i y hy0 hlt
    have hz2 : (mk ((sealL (UInt8.ofNat k.toNat) b.data.toList).set i ((sealL (UInt8.ofNat k.toNat) b.data.toList)[i] ^^^ y))).size ≤ 140737488351232 := by
      rw [mk_size, List.length_set, sealL_length, hl]; omega
    obtain ⟨e, ho, hne⟩ := open_wrong _ hw
    exact turned_last 20 k b i _ _ _ e hs2 c1 c2 c3 (by omega) ht (by rw [open_eq _ hz2 (by omega), ho]) hne (awake_eq (by omega))
  · unfold counterfoillaw03_FrameTurned.f
    rw [hs]
    simp only [Option.bind_some]
    rw [if_neg he, awake_eq (by omega)]
end Go.Proofs.Ytkkkocemdjekcaa.Pure
