/- For all writes and volumes (at most 200 writes, 10 volumes of 100 blocks), DirtyNames answers true: the blocks that writes name, and all blocks of volumes, are marked as the document says. -/
import Derived.Test.YtcigkejiompieaaPx0
import Derived.Test.YtcigkejiompieaaPx15
import Derived.Test.YtcigkejiompieaaPx2
import Derived.Test.YtcigkejiompieaaDirtyN
namespace Go.Proofs.Ytcigkejiompieaa.Pure
open Go.RowKit Go.Proofs.Ytcigkejiompieaa.P Go.Proofs.Ytcigkejiompieaa.Dirty Go.Proofs.YtcigkejiompieaaW.PrintWords Go.Proofs.YtcigkejiompieaaW.PrintLast Go.Proofs.YtcigkejiompieaaW.PrintMore
set_option linter.unusedVariables false
set_option linter.unusedSimpArgs false

theorem within_all {vs : List S76} (h : rightV vs = true) : within (vs.map maskV) vs = true := by
  unfold within
  rw [List.all_eq_true]
  intro b hb
  rw [List.all_eq_true]
  intro n hn
  have h1 := rgt_mem (maskV_rgt (rightV_mem h).2) (Int.le_refl _) b hb
  cases hc : b.f1.toNat.testBit n with
  | false => rfl
  | true =>
    rw [← all_bits]
    have : hasI (vs.map maskV) ((b.f0.toNat : Nat) : Int) n = true := by
      rw [hasI, List.any_eq_true]
      exact ⟨b, hb, by rw [decide_eq_true (by omega), hc]; rfl⟩
    rw [this]
    rfl
theorem rest_eq (vs : List S76) (hv : vs.length ≤ 10) (hb : ∀ x ∈ vs, x.f1.length ≤ 100) {k : Nat} (hk : 20000000001 ≤ k) : counterfoillaw10_DirtyNames.j0 k vs false = some true := by
  obtain ⟨k, rfl⟩ : ∃ j, k = j + 1 := ⟨k - 1, by omega⟩
  have hal := all_len vs hb
  rw [counterfoillaw10_DirtyNames.j0, if_neg (by decide), all_eq vs hv (by omega), rvol_eq vs (by omega), awake_eq]
  simp only [Option.bind_some]
  by_cases h : rightV vs = true
  · rw [if_pos h, if_pos h, rall_eq vs hv hb (by omega)]
    simp only [Option.bind_some]
    rw [of_eq _ (by omega) (by omega), if_pos (all_may h)]
    simp only [Option.bind_some]
    rw [← all_same h, equal_same _ (by rw [List.length_map]; omega) (by rw [List.length_map]; omega)]
    simp only [Option.bind_some]
    rw [if_pos trivial, within_eq _ vs (by rw [List.length_map]; omega) (maskV_nonneg vs) hv (by omega), maskV_rgt (rightV_mem h).2, h, within_all h]
    rfl
  · rw [if_neg h, if_neg h]; rfl
theorem DirtyNames : counterfoillaw10_DirtyNames.Pure := by
  intro ws vs hws hvs
  obtain ⟨k, hk⟩ : ∃ k, 20000000001 ≤ k := ⟨20000000001, Nat.le_refl _⟩
  refine ⟨k, ?_⟩
  unfold counterfoillaw10_DirtyNames.f
  rw [small07_eq vs ws (by omega)]
  simp only [Option.bind_some]
  by_cases hs : (decide (vs.length ≤ 10 ∧ ws.length ≤ 200) && vs.all fun x => decide (x.f1.length ≤ 100)) = true
  · rw [if_pos hs]
    rw [Bool.and_eq_true, decide_eq_true_eq, List.all_eq_true] at hs
    have hb : ∀ x ∈ vs, x.f1.length ≤ 100 := fun x hx => by have := hs.2 x hx; rwa [decide_eq_true_eq] at this
    have hnl : (nameS ws).length = ws.length := by unfold nameS; rw [List.length_map]
    rw [names_eq ws hs.1.2 (by omega)]
    simp only [Option.bind_some]
    rw [show (ws.map fun x => (⟨x.f0, x.f1⟩ : S37)) = nameS ws from rfl, of_eq _ (by omega) (by omega), rest_eq vs hs.1.1 hb hk]
    unfold dirty_Of.f
    by_cases hok : ∀ b ∈ ws, okW b
    · have he : ofTo ws ws.length = fun u => ((gath (nameS ws) u : Nat) : Int) := by
        rw [ofTo_gath ws hok ws.length (Nat.le_refl _), List.take_length]
      have hlen := bitsTo_len (fun u => ((gath (nameS ws) u : Nat) : Int)) 256
      rw [if_pos hok, if_pos ((names_may ws).2 hok), he]
      simp only [Option.bind_some]
      rw [equal_same _ (by omega) (by omega)]
      rfl
    · rw [if_neg hok, if_neg (fun h => hok ((names_may ws).1 h))]
      simp only [Option.bind_some]
      rw [equal_same [] (by decide) (by show 0 < k; omega)]
      simp only [Option.bind_some]
      exact rest_eq vs hs.1.1 hb hk
  · rw [if_neg hs, awake_eq]; rfl
end Go.Proofs.Ytcigkejiompieaa.Pure
