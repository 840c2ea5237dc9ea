/- For all texts, DirtyParses answers true: any bytes are the bits that the document says, or refused. -/
import Derived.Test.YtcigkejiompieaaPx0
import Derived.Test.YtcigkejiompieaaPx11
import Derived.Test.YtcigkejiompieaaDirtyP
namespace Go.Proofs.Ytcigkejiompieaa.Pure
open Go.RowKit Go.Proofs.Ytcigkejiompieaa.P Go.Proofs.Ytcigkejiompieaa.Core Go.Proofs.Ytcigkejiompieaa.Dirty Go.Proofs.YtcigkejiompieaaW.PrintWords Go.Proofs.YtcigkejiompieaaW.PrintLast Go.Proofs.YtcigkejiompieaaW.PrintMore
set_option linter.unusedVariables false
set_option linter.unusedSimpArgs false

theorem parse_short (l : List UInt8) : (parseS l).1.length ≤ 255 := by
  match l with
  | [] => exact Nat.zero_le _
  | b :: l =>
    have := b.toNat_lt
    show (if _ then _ else _ : List S63 × ByteArray × Int).1.length ≤ _
    split
    · exact Nat.zero_le _
    · split
      · show (outL _ _).length ≤ _
        rw [outL_len]; omega
      · exact Nat.zero_le _
theorem DirtyParses : counterfoillaw10_DirtyParses.Pure := by
  intro s hs
  obtain ⟨k, hk⟩ : ∃ k, 20000000001 ≤ k := ⟨20000000001, Nat.le_refl _⟩
  refine ⟨k + 1, ?_⟩
  obtain ⟨l, rfl⟩ : ∃ l, s = mk l := ⟨s.data.toList, (data_mk s).symm⟩
  rw [mk_size] at hs
  have h5 := parse_short l
  unfold counterfoillaw10_DirtyParses.f
  rw [parse_eq l (by omega) (by omega), rparse_eq l (by omega) (by omega), awake_eq]
  simp only [Option.bind_some]
  rw [equal_same _ (by omega) (by omega)]
  simp only [Option.bind_some, if_true]
end Go.Proofs.Ytcigkejiompieaa.Pure
