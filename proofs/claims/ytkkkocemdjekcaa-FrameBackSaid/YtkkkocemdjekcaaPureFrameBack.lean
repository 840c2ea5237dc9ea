/- For all kinds and bodies, FrameBack answers true: what is sealed is opened again. -/
import Derived.Test.YtkkkocemdjekcaaPx4
import Derived.Test.YtkkkocemdjekcaaFrame
import Derived.Test.YtkkkocemdjekcaaFrameA
namespace Go.Proofs.Ytkkkocemdjekcaa.Pure
open Go.RowKit Go.Proofs.Ytkkkocemdjekcaa.P Go.Proofs.Ytkkkocemdjekcaa.Core Go.Proofs.Ytkkkocemdjekcaa.Crc Go.Proofs.Ytkkkocemdjekcaa.Conv Go.Proofs.Ytkkkocemdjekcaa.Sum Go.Proofs.Ytkkkocemdjekcaa.Oct Go.Proofs.Ytkkkocemdjekcaa.Frame Go.Proofs.YtkkkocemdjekcaaW.PrintWords Go.Proofs.YtkkkocemdjekcaaW.PrintLast Go.Proofs.YtkkkocemdjekcaaW.PrintMore
set_option linter.unusedVariables false
set_option linter.unusedSimpArgs false

theorem FrameBack : counterfoillaw03_FrameBack.Pure := by
  intro k b hk hb
  refine ⟨20, ?_⟩
  unfold counterfoillaw03_FrameBack.f
  rw [seal_eq k b (by omega), awake_eq (by omega)]
  simp only [Option.bind_some]
  by_cases he : (sealS k b).2 = 0
  · rw [if_pos he]
    obtain ⟨h0, h1, h2, h3⟩ := sealS_ok he
    have hl : b.data.toList.length = b.size := by simp
    have ho := open_seal (UInt8.ofNat k.toNat) b.data.toList (by omega)
    have hz : (mk (sealL (UInt8.ofNat k.toNat) b.data.toList)).size = b.size + 7 := by rw [mk_size, sealL_length, hl]
    have hkk : ((UInt8.ofNat k.toNat).toNat : Int) = k := by simp; omega
    rw [h3]
    generalize mk (sealL (UInt8.ofNat k.toNat) b.data.toList) = t at *
    rw [open_eq t (by omega) (by omega), ho, data_mk]
    simp only [Option.bind_some]
    rw [hz, w64_id (by omega) (by omega), if_pos hkk, if_pos trivial, if_pos trivial, if_pos (by omega)]
  · obtain ⟨h1, h2⟩ := sealS_bad he
    rw [if_neg he, h1, if_pos (by simp [ByteArray.toList_eq, mk])]
    by_cases c1 : k < 0
    · rw [if_pos c1]
    rw [if_neg c1]
    by_cases c2 : k > 255
    · rw [if_pos c2]
    rw [if_neg c2, if_pos (by omega)]
end Go.Proofs.Ytkkkocemdjekcaa.Pure
