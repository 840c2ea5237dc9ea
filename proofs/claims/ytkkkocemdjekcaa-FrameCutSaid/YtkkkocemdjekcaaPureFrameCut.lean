/- For all kinds, bodies and lengths, FrameCut answers true: of a frame that lacks bytes at its end Open tells only that it is short. -/
import Derived.Test.YtkkkocemdjekcaaPx4
import Derived.Test.YtkkkocemdjekcaaFrame
import Derived.Test.YtkkkocemdjekcaaFrameA
namespace Go.Proofs.Ytkkkocemdjekcaa.Pure
open Go.RowKit Go.Proofs.Ytkkkocemdjekcaa.P Go.Proofs.Ytkkkocemdjekcaa.Core Go.Proofs.Ytkkkocemdjekcaa.Crc Go.Proofs.Ytkkkocemdjekcaa.Conv Go.Proofs.Ytkkkocemdjekcaa.Sum Go.Proofs.Ytkkkocemdjekcaa.Oct Go.Proofs.Ytkkkocemdjekcaa.Frame Go.Proofs.YtkkkocemdjekcaaW.PrintWords Go.Proofs.YtkkkocemdjekcaaW.PrintLast Go.Proofs.YtkkkocemdjekcaaW.PrintMore
set_option linter.unusedVariables false
set_option linter.unusedSimpArgs false

theorem lenF_take (k : UInt8) (b : List UInt8) (c : Nat) (h : b.length ≤ 4096) (h7 : 7 ≤ c) : lenF (mk ((sealL k b).take c)) = b.length := by
  unfold lenF
  rw [mk_data, List.drop_take, List.take_take, show min 2 (c - 1) = 2 from by omega]
  have := lenF_mk k b (digs (crc 0 (mk (headL k b))) 4) h
  unfold lenF at this
  exact this
theorem open_cut (k : UInt8) (b : List UInt8) (c : Nat) (h : b.length ≤ 4096) (hc : c < b.length + 7) : openS (mk ((sealL k b).take c)) = (0, mk [], 2) := by
  have hz : (mk ((sealL k b).take c)).size = c := by rw [mk_size, List.length_take, sealL_length]; omega
  unfold openS
  by_cases h7 : c < 7
  · rw [hz, if_pos h7]
  · rw [hz, if_neg h7, lenF_take k b c h (by omega), if_neg (by omega), if_pos (by omega)]
theorem FrameCut : counterfoillaw03_FrameCut.Pure := by
  intro k b c hk hb hc
  refine ⟨21, ?_⟩
  unfold counterfoillaw03_FrameCut.f
  rw [seal_eq k b (by omega)]
  simp only [Option.bind_some]
  have yes : ∀ s, counterfoillaw03_FrameCut.j0 21 c s true = some true := by
    intro s
    simp only [counterfoillaw03_FrameCut.j0]
    rw [if_pos trivial, awake_eq (by omega)]
    rfl
  by_cases he : (sealS k b).2 = 0
  · rw [if_pos he]
    obtain ⟨h0, h1, h2, h3⟩ := sealS_ok he
    have hl : b.data.toList.length = b.size := by simp
    have hz : (mk (sealL (UInt8.ofNat k.toNat) b.data.toList)).size = b.size + 7 := by rw [mk_size, sealL_length, hl]
    by_cases c0 : c < 0
    · rw [if_pos c0, yes]
    rw [if_neg c0, h3, hz]
    by_cases c1 : c ≥ ((b.size + 7 : Nat) : Int)
    · rw [decide_eq_true c1, yes]
    rw [decide_eq_false c1]
    have hx : (mk (sealL (UInt8.ofNat k.toNat) b.data.toList)).extract 0 c.toNat = mk ((sealL (UInt8.ofNat k.toNat) b.data.toList).take c.toNat) := by
      apply ba_ext
      rw [data_extract_list, mk_data, mk_data, List.drop_zero]
    have ho := open_cut (UInt8.ofNat k.toNat) b.data.toList c.toNat (by omega) (by omega)
    have hz2 : (mk ((sealL (UInt8.ofNat k.toNat) b.data.toList).take c.toNat)).size ≤ 5000 := by rw [mk_size, List.length_take, sealL_length]; omega
    simp only [counterfoillaw03_FrameCut.j0]
    rw [if_neg (by simp), if_pos (by omega), if_pos (by rw [hz]; omega), hx]
    generalize mk ((sealL (UInt8.ofNat k.toNat) b.data.toList).take c.toNat) = t at *
    rw [open_eq t (by omega) (by omega), ho, awake_eq (by omega)]
    simp [ByteArray.toList_eq, mk]
  · rw [if_neg he, yes]
end Go.Proofs.Ytkkkocemdjekcaa.Pure
