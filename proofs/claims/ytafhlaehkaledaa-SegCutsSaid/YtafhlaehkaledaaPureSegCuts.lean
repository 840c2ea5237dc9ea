/- Every text is cut as the document says, or refused. -/
import Derived.Test.YtafhlaehkaledaaPx1
import Derived.Test.YtafhlaehkaledaaPx2
import Derived.Test.YtafhlaehkaledaaSegB
namespace Go.Proofs.Ytafhlaehkaledaa.Pure
open Go.RowKit Go.Proofs.Ytafhlaehkaledaa.P Go.Proofs.Ytafhlaehkaledaa.Core Go.Proofs.Ytafhlaehkaledaa.Oct Go.Proofs.Ytafhlaehkaledaa.Seg Go.Proofs.YtafhlaehkaledaaW.PrintWords Go.Proofs.YtafhlaehkaledaaW.PrintLast Go.Proofs.YtafhlaehkaledaaW.PrintMore
set_option linter.unusedVariables false
set_option linter.unusedSimpArgs false

theorem cuts_j_true (s : ByteArray) (n : Int) (L : List ByteArray) (e : Int) (k : Nat) (hL : L = []) (he : e = 1) (ha : counterfoillaw14_awake.f k = some true) : counterfoillaw14_SegCuts.j0 (k + 1) s n L e true = some true := by
  subst hL; subst he
  rw [counterfoillaw14_SegCuts.j0, if_pos rfl]
  simp [ha]
theorem cuts_j_false (s : ByteArray) (n : Int) (L : List ByteArray) (e : Int) (k : Nat) (he : e = 0) (b : Bool) (hp : counterfoilref14_Pieces.f k s n = some (L, b)) (hs : counterfoilref01_Same.f k L L = some true) (ha : counterfoillaw14_awake.f k = some true) : counterfoillaw14_SegCuts.j0 (k + 1) s n L e false = some true := by
  subst he
  rw [counterfoillaw14_SegCuts.j0, if_neg (by decide), hp]
  simp only [Option.bind_some]
  rw [hs]
  simp only [Option.bind_some]
  simp [ha]
theorem cuts (s : ByteArray) (n : Int) (k : Nat) (L : List ByteArray) (e : Int) (hc : seg_Cut.f (k + 1) s n = some (L, e)) (h1 : n < 1 → counterfoillaw14_SegCuts.j0 (k + 1) s n L e true = some true) (h2 : ¬ n < 1 → counterfoillaw14_SegCuts.j0 (k + 1) s n L e (decide (n > 508)) = some true)
    (ha : counterfoillaw14_awake.f (k + 1) = some true) : counterfoillaw14_SegCuts.f (k + 1) s n = some true := by
  unfold counterfoillaw14_SegCuts.f
  by_cases h : (s.size : Int) > 16384
  · rw [if_pos h, ha]; rfl
  · rw [if_neg h, hc]
    simp only [Option.bind_some]
    by_cases h3 : n < 1
    · rw [if_pos h3]; exact h1 h3
    · rw [if_neg h3]; exact h2 h3
theorem SegCuts : counterfoillaw14_SegCuts.Pure := by
  intro s n hs hn
  by_cases hz : (s.size : Int) > 16384
  · refine ⟨70001, ?_⟩
    unfold counterfoillaw14_SegCuts.f
    rw [if_pos hz, awake_eq (by decide)]; rfl
  refine ⟨70001, ?_⟩
  have ha := awake_eq (k := 70000) (by decide)
  have ha1 := awake_eq (k := 70001) (by decide)
  have hc := cut_eq s n hs (k := 70001) (by decide)
  unfold cutS at hc
  by_cases h1 : n < 1 ∨ 508 < n
  · rw [if_pos h1] at hc
    refine cuts s n 70000 [] 1 hc (fun _ => cuts_j_true s n [] 1 70000 rfl rfl ha) (fun h => ?_) ha1
    rw [decide_eq_true (show n > 508 by omega)]
    exact cuts_j_true s n [] 1 70000 rfl rfl ha
  · obtain ⟨n, rfl⟩ := Int.eq_ofNat_of_zero_le (a := n) (by omega)
    rw [if_neg h1, Int.toNat_natCast] at hc
    have hcl : cnt s.size n ≤ 16385 := Nat.le_trans (cnt_le _ _ (by omega)) (by omega)
    rw [if_neg (by omega)] at hc
    refine cuts s n 70000 _ 0 hc (fun h => absurd h (by omega)) (fun h => ?_) ha1
    rw [decide_eq_false (show ¬ (n : Int) > 508 by omega)]
    refine cuts_j_false s n _ 0 70000 rfl true (pieces_eq s n (by omega) (by omega) (by decide)) ?_ ha
    rw [same_eq _ _ (by rw [piecesS_length]; omega) (by rw [piecesS_length]; omega)]
    simp
end Go.Proofs.Ytafhlaehkaledaa.Pure
