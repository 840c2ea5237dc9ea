/- A list that is written is taken back, whatever stands behind it. -/
import Derived.Test.YtbnkmdcfillhoaaPx1
import Derived.Test.YtbnkmdcfillhoaaPx3
import Derived.Test.YtbnkmdcfillhoaaPx4
import Derived.Test.YtbnkmdcfillhoaaPx5
import Derived.Test.YtbnkmdcfillhoaaPx6
import Derived.Test.YtbnkmdcfillhoaaOctL
namespace Go.Proofs.Ytbnkmdcfillhoaa.Pure
open Go.RowKit Go.Proofs.Ytbnkmdcfillhoaa.P Go.Proofs.Ytbnkmdcfillhoaa.Core Go.Proofs.Ytbnkmdcfillhoaa.Oct Go.Proofs.YtbnkmdcfillhoaaW.PrintWords Go.Proofs.YtbnkmdcfillhoaaW.PrintLast Go.Proofs.YtbnkmdcfillhoaaW.PrintMore
set_option linter.unusedVariables false
set_option linter.unusedSimpArgs false

theorem kept (l : List ByteArray) (m : ByteArray) (k : Nat) (b : Bool) (h1 : counterfoilref01_Small.f k l 200 262144 = some b) (h2 : b = true → octet_List.f k l = some (listS l)) (h3 : b = true → (listS l).2 = 0 → (listS l).1.size + m.size ≤ 9223372036854775807 ∧ octet_Items.f k ((listS l).1 ++ m) = some (l, m, 0) ∧ counterfoilref01_Same.f k l l = some true)
    (h4 : counterfoillaw01_awake.f k = some true) : counterfoillaw01_OctetKept.f k l m = some true := by
  unfold counterfoillaw01_OctetKept.f
  rw [h1]
  simp only [Option.bind_some]
  cases b with
  | false => rw [if_neg (by decide), h4]; rfl
  | true =>
    rw [if_pos rfl, h2 rfl]
    simp only [Option.bind_some]
    by_cases h : (listS l).2 = 0
    · obtain ⟨h5, h6, h7⟩ := h3 rfl h
      rw [if_pos h, if_pos h5, h6]
      simp only [Option.bind_some]
      rw [if_pos trivial, if_pos trivial, h7, h4]
      simp
    · rw [if_neg h, listS_bad l h, h4]
      simp [mk]
theorem OctetKept : counterfoillaw01_OctetKept.Pure := by
  intro l m ⟨h1, h2, h3⟩ hm
  refine ⟨70000, ?_⟩
  have hs := small_eq l 200 262144 (by decide) h3 (by omega) (k := 70000) (by decide)
  refine kept l m 70000 _ hs (fun h => ?_) (fun h h5 => ?_) (awake_eq (by decide))
  · have := of_decide_eq_true h
    exact list_eq l (by omega) h3 (by omega) (by decide)
  · have hd := of_decide_eq_true h
    have e : listS l = listT l (mk (digs l.length 2)) := by unfold listS; rw [if_neg (by omega)]
    have hz := listT_size l (mk (digs l.length 2))
    rw [mk_size, digs_length] at hz
    rw [e] at h5 ⊢
    obtain ⟨e1, e2⟩ := listT_ok l _ h5
    refine ⟨by omega, ?_, ?_⟩
    · rw [e1, items_eq _ (by decide), itemsS_list l m (by omega) e2]
    · rw [same_eq l l (by omega) (by omega)]; simp
end Go.Proofs.Ytbnkmdcfillhoaa.Pure
