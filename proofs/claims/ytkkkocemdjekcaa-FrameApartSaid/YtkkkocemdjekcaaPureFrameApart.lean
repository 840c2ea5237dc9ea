/- For all kinds and bodies, FrameApart answers true: two frames are the same bytes just if kind and body are the same. -/
import Derived.Test.YtkkkocemdjekcaaPx4
import Derived.Test.YtkkkocemdjekcaaFrame
import Derived.Test.YtkkkocemdjekcaaFrameA
namespace Go.Proofs.Ytkkkocemdjekcaa.Pure
open Go.RowKit Go.Proofs.Ytkkkocemdjekcaa.P Go.Proofs.Ytkkkocemdjekcaa.Core Go.Proofs.Ytkkkocemdjekcaa.Crc Go.Proofs.Ytkkkocemdjekcaa.Conv Go.Proofs.Ytkkkocemdjekcaa.Sum Go.Proofs.Ytkkkocemdjekcaa.Oct Go.Proofs.Ytkkkocemdjekcaa.Frame Go.Proofs.YtkkkocemdjekcaaW.PrintWords Go.Proofs.YtkkkocemdjekcaaW.PrintLast Go.Proofs.YtkkkocemdjekcaaW.PrintMore
set_option linter.unusedVariables false
set_option linter.unusedSimpArgs false

theorem FrameApart : counterfoillaw03_FrameApart.Pure := by
  intro k m a b hk hm ha hb
  refine ⟨21, ?_⟩
  unfold counterfoillaw03_FrameApart.f
  rw [seal_eq k a (by omega), seal_eq m b (by omega)]
  simp only [Option.bind_some]
  have yes : ∀ s t, counterfoillaw03_FrameApart.j0 21 k m a b s t true = some true := by
    intro s t
    simp only [counterfoillaw03_FrameApart.j0]
    rw [if_pos trivial, awake_eq (by omega)]
    rfl
  by_cases he : (sealS k a).2 = 0
  · rw [if_pos he]
    by_cases hf : (sealS m b).2 = 0
    · obtain ⟨h0, h1, h2, h3⟩ := sealS_ok he
      obtain ⟨k0, k1, k2, k3⟩ := sealS_ok hf
      have la : a.data.toList.length = a.size := by simp
      have lb : b.data.toList.length = b.size := by simp
      have hi : sealL (UInt8.ofNat k.toNat) a.data.toList = sealL (UInt8.ofNat m.toNat) b.data.toList ↔ k = m ∧ a = b := by
        constructor
        · intro h
          obtain ⟨e1, e2⟩ := sealL_inj (by omega) (by omega) h
          have e3 := congrArg UInt8.toNat e1
          simp at e3
          exact ⟨by omega, ba_ext e2⟩
        · rintro ⟨rfl, rfl⟩; rfl
      rw [hf, show ((0 : Int) != 0) = false from rfl, h3, k3]
      simp only [counterfoillaw03_FrameApart.j0]
      rw [if_neg (by simp), awake_eq (by omega)]
      have hs : ((mk (sealL (UInt8.ofNat k.toNat) a.data.toList)).toList == (mk (sealL (UInt8.ofNat m.toNat) b.data.toList)).toList) = decide (k = m ∧ a = b) := by
        rw [Bool.eq_iff_iff]
        simp only [beq_iff_eq, decide_eq_true_eq]
        rw [ba_inj, mk_inj, hi]
      have ht : (a.toList == b.toList) = decide (a = b) := by
        rw [Bool.eq_iff_iff]
        simp only [beq_iff_eq, decide_eq_true_eq]
        exact ba_inj
      rw [hs, ht]
      by_cases c : k = m
      · rw [if_pos c, if_pos (by simp [c])]; rfl
      · rw [if_neg c, if_pos (by simp [c])]; rfl
    · rw [show ((sealS m b).2 != 0) = true from by rw [bne_iff_ne]; exact hf, yes]
  · rw [if_neg he, yes]
end Go.Proofs.Ytkkkocemdjekcaa.Pure
