/- A text of more pieces than may be is refused, one of just as many is not. -/
import Derived.Test.YtafhlaehkaledaaPx1
import Derived.Test.YtafhlaehkaledaaPx3
import Derived.Test.YtafhlaehkaledaaSegB
namespace Go.Proofs.Ytafhlaehkaledaa.Pure
open Go.RowKit Go.Proofs.Ytafhlaehkaledaa.P Go.Proofs.Ytafhlaehkaledaa.Core Go.Proofs.Ytafhlaehkaledaa.Oct Go.Proofs.Ytafhlaehkaledaa.Seg Go.Proofs.YtafhlaehkaledaaW.PrintWords Go.Proofs.YtafhlaehkaledaaW.PrintLast Go.Proofs.YtafhlaehkaledaaW.PrintMore
set_option linter.unusedVariables false
set_option linter.unusedSimpArgs false

theorem cnt_one (z : Nat) : cnt z 1 = max 1 z := by unfold cnt; rw [Nat.add_sub_cancel, Nat.div_one]
theorem long (m : Int) (n : Nat) (k : Nat) (L : List ByteArray) (e : Int) (hm : wrap64 (65530 + (Int.tmod (wrap64 m) 10)) = (n : Int)) (h0 : (n : Int).toNat ≤ 281474976710656) (hc : seg_Cut.f k (strOfNums (List.replicate (n : Int).toNat 0)) 1 = some (L, e))
    (h1 : (n : Int) > 65535 → L = [] ∧ e = 5) (h2 : ¬ (n : Int) > 65535 → (L.length : Int) = (n : Int) ∧ e = 0) (ha : counterfoillaw14_awake.f k = some true) : counterfoillaw14_SegLong.f k m = some true := by
  unfold counterfoillaw14_SegLong.f
  rw [hm, if_pos (Int.natCast_nonneg n), if_pos h0, hc]
  simp only [Option.bind_some]
  by_cases h : (n : Int) > 65535
  · obtain ⟨rfl, rfl⟩ := h1 h
    rw [if_pos h]; simp [ha]
  · obtain ⟨h3, rfl⟩ := h2 h
    rw [if_neg h, if_pos h3]; simp [ha]
theorem SegLong : counterfoillaw14_SegLong.Pure := by
  intro m hm
  have hb : 0 ≤ m ∧ m ≤ 255 := by simpa [Lit.wf, IntKind.min, IntKind.max, IntKind.signed, IntKind.bits] using hm
  obtain ⟨m, rfl⟩ := Int.eq_ofNat_of_zero_le hb.1
  refine ⟨70001, ?_⟩
  have e0 : wrap64 (m : Int) = (m : Int) := wrap64_id (by omega) (by omega)
  have e1 : wrap64 (65530 + (Int.tmod (wrap64 (m : Int)) 10)) = ((65530 + m % 10 : Nat) : Int) := by
    rw [e0, Int.tmod_eq_emod_of_nonneg (by omega), wrap64_id (by omega) (by omega)]; omega
  have hl : m % 10 < 10 := Nat.mod_lt _ (by decide)
  generalize m % 10 = q at *
  have hs : (strOfNums (List.replicate (65530 + q) 0)).size = 65530 + q := by rw [strOfNums_mk, mk_size, List.length_map, List.length_replicate]
  have hc := cut_eq (strOfNums (List.replicate (65530 + q) 0)) 1 (by rw [hs]; omega) (k := 70001) (by decide)
  unfold cutS at hc
  rw [if_neg (by omega), hs, show (1 : Int).toNat = 1 from rfl, cnt_one] at hc
  have hm1 : max 1 (65530 + q) = 65530 + q := by omega
  rw [hm1] at hc
  by_cases h : 65535 < 65530 + q
  · rw [if_pos h] at hc
    exact long m (65530 + q) 70001 [] 5 e1 (by rw [Int.toNat_natCast]; omega) (by rw [Int.toNat_natCast]; exact hc) (fun _ => ⟨rfl, rfl⟩) (fun h2 => absurd h (by omega)) (awake_eq (by decide))
  · rw [if_neg h] at hc
    exact long m (65530 + q) 70001 _ 0 e1 (by rw [Int.toNat_natCast]; omega) (by rw [Int.toNat_natCast]; exact hc) (fun h2 => absurd h2 (by omega)) (fun _ => ⟨by rw [piecesS_length], rfl⟩) (awake_eq (by decide))
end Go.Proofs.Ytafhlaehkaledaa.Pure
