/- For all texts s and more, OctetTakes answers true: a text that is written is taken back, whatever stands behind it. -/
import Derived.Test.YtbnkmdcfillhoaaPx5
import Derived.Test.YtbnkmdcfillhoaaOctB
namespace Go.Proofs.Ytbnkmdcfillhoaa.Pure
open Go.RowKit Go.Proofs.Ytbnkmdcfillhoaa.P Go.Proofs.Ytbnkmdcfillhoaa.Core Go.Proofs.Ytbnkmdcfillhoaa.Oct Go.Proofs.YtbnkmdcfillhoaaW.PrintWords Go.Proofs.YtbnkmdcfillhoaaW.PrintLast Go.Proofs.YtbnkmdcfillhoaaW.PrintMore
set_option linter.unusedVariables false
set_option linter.unusedSimpArgs false
theorem takes_long (s m : ByteArray) (hs : s.size ≤ 140737488351232) (h : 65535 < s.size) : counterfoillaw01_OctetTakes.f 20 s m = some true := by
  unfold counterfoillaw01_OctetTakes.f
  have ht : textS s = (mk [], 5) := by unfold textS; rw [if_pos h]
  rw [text_eq s hs (by omega), awake_eq (by omega), ht]
  simp only [Option.bind_some]
  rw [if_pos (by omega), if_pos (by simp [ByteArray.toList_eq, mk])]
  rfl
theorem takes_short (s m : ByteArray) (hs : s.size ≤ 140737488351232) (hm : m.size ≤ 140737488351232) (h : ¬ 65535 < s.size) : counterfoillaw01_OctetTakes.f 20 s m = some true := by
  unfold counterfoillaw01_OctetTakes.f
  have hz : (mk (digs s.size 2) ++ s).size = s.size + 2 := by rw [ByteArray.size_append, mk_size, digs_length]; omega
  have hw : wrap64 ((s.size : Int) + 2) = ((s.size + 2 : Nat) : Int) := by rw [wrap64_id (by omega) (by omega)]; omega
  have ht := takeS_text s m (by omega)
  rw [text_eq s hs (by omega), awake_eq (by omega), textS_size s (by omega)]
  generalize mk (digs s.size 2) ++ s = t at *
  simp only [Option.bind_some]
  rw [if_neg (by omega), if_pos (by omega), take_eq _ (by omega), ht, hw, hz]
  simp
theorem OctetTakes : counterfoillaw01_OctetTakes.Pure := by
  intro s m hs hm
  by_cases h : 65535 < s.size
  · exact ⟨20, takes_long s m hs h⟩
  · exact ⟨20, takes_short s m hs hm h⟩
end Go.Proofs.Ytbnkmdcfillhoaa.Pure
