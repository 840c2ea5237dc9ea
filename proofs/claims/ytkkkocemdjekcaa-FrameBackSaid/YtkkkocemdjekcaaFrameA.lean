/- The fixed answer of the frame's statements. -/
import Derived.Test.YtkkkocemdjekcaaPx2
import Derived.Test.YtkkkocemdjekcaaFrame
namespace Go.Proofs.Ytkkkocemdjekcaa.Frame
open Go.RowKit Go.Proofs.Ytkkkocemdjekcaa.P Go.Proofs.Ytkkkocemdjekcaa.Core Go.Proofs.Ytkkkocemdjekcaa.Crc Go.Proofs.Ytkkkocemdjekcaa.Conv Go.Proofs.Ytkkkocemdjekcaa.Sum Go.Proofs.Ytkkkocemdjekcaa.Oct Go.Proofs.YtkkkocemdjekcaaW.PrintWords Go.Proofs.YtkkkocemdjekcaaW.PrintLast Go.Proofs.YtkkkocemdjekcaaW.PrintMore
theorem awake_eq {k : Nat} (hk : 13 ≤ k) : counterfoillaw03_awake.f k = some true := by
  unfold counterfoillaw03_awake.f
  have e : (⟨#[97, 98]⟩ : ByteArray) = mk [97, 98] := rfl
  have h1 : sealS 5 (mk [97, 98]) = (mk (sealL 5 [97, 98]), 0) := by
    unfold sealS
    rw [if_neg (by omega), mk_size, if_neg (by simp)]
    rfl
  have h2 := open_seal 5 [97, 98] (by simp)
  have h3 := sealL_length 5 [97, 98]
  rw [e, seal_eq _ _ hk, h1]
  simp only [Option.bind_some]
  generalize sealL 5 [97, 98] = l at *
  rw [open_eq _ (by rw [mk_size, h3]; simp) (by omega), h2]
  simp only [Option.bind_some]
  rw [mk_size, h3]
  simp [ByteArray.toList_eq, mk]
end Go.Proofs.Ytkkkocemdjekcaa.Frame
