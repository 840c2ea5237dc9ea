/- For all masks of at most 300 volumes and all texts, DirtyBytes answers true: bits are written as bytes as the document says, and read back, whatever stands behind. -/
import Derived.Test.YtcigkejiompieaaPx0
import Derived.Test.YtcigkejiompieaaPx10
import Derived.Test.YtcigkejiompieaaDirtyG
namespace Go.Proofs.Ytcigkejiompieaa.Pure
open Go.RowKit Go.Proofs.Ytcigkejiompieaa.P Go.Proofs.Ytcigkejiompieaa.Core Go.Proofs.Ytcigkejiompieaa.Dirty Go.Proofs.YtcigkejiompieaaW.PrintWords Go.Proofs.YtcigkejiompieaaW.PrintLast Go.Proofs.YtcigkejiompieaaW.PrintMore
set_option linter.unusedVariables false
set_option linter.unusedSimpArgs false

theorem wf_nonneg {m : List S63} (h : ∀ y ∈ m, (Lit.int .i64 y.f0).wf = true ∧ (Lit.int .u64 y.f1).wf = true) : ∀ b ∈ m, 0 ≤ b.f1 := by
  intro b hb
  have := (h b hb).2
  simp [Lit.wf, IntKind.min, IntKind.max, IntKind.signed, IntKind.bits] at this
  omega
theorem DirtyBytes : counterfoillaw10_DirtyBytes.Pure := by
  intro m more hwm hmore
  obtain ⟨k, hk⟩ : ∃ k, 20000000001 ≤ k := ⟨20000000001, Nat.le_refl _⟩
  refine ⟨k + 1, ?_⟩
  have hw := wf_nonneg hwm.2.2
  unfold counterfoillaw10_DirtyBytes.f
  by_cases q1 : (m.length : Int) > 300
  · rw [if_pos q1, awake_eq]; rfl
  have hm : m.length ≤ 300 := by omega
  rw [if_neg q1, rright_eq m (by omega) (by omega), bytes_eq m hm hw (by omega), awake_eq]
  simp only [Option.bind_some]
  by_cases hr : rgt 0 m = true
  · have hbl : (bytesB m).length ≤ 1600 := by
      show (digs m.length 1 ++ bodyB m).length ≤ _
      rw [List.length_append, digs_length, bodyB_len]
      omega
    obtain ⟨more, rfl⟩ : ∃ l, more = mk l := ⟨more.data.toList, (data_mk more).symm⟩
    rw [mk_size] at hmore
    rw [if_pos hr, if_pos hr]
    simp only []
    rw [if_pos (by rw [mk_size, mk_size]; omega), mk_append, parse_eq _ (by rw [List.length_append]; omega) (by omega), rbytes_eq m hm hr hw (by omega), parseS_bytes m hr hw]
    simp only [Option.bind_some]
    rw [equal_same m (by omega) (by omega)]
    simp only [Option.bind_some, if_true]
  · rw [if_neg hr, if_neg hr]
    simp only [Option.bind_some, if_true]
    rw [if_pos (by rw [ByteArray.toList_eq]; rfl)]
end Go.Proofs.Ytcigkejiompieaa.Pure
