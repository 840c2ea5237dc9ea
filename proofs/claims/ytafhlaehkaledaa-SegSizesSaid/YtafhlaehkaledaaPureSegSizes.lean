/- Each piece has four bytes and at most so many of the text, and all of them the whole of it. -/
import Derived.Test.YtafhlaehkaledaaPx1
import Derived.Test.YtafhlaehkaledaaPx3
import Derived.Test.YtafhlaehkaledaaSegB
namespace Go.Proofs.Ytafhlaehkaledaa.Pure
open Go.RowKit Go.Proofs.Ytafhlaehkaledaa.P Go.Proofs.Ytafhlaehkaledaa.Core Go.Proofs.Ytafhlaehkaledaa.Oct Go.Proofs.Ytafhlaehkaledaa.Seg Go.Proofs.YtafhlaehkaledaaW.PrintWords Go.Proofs.YtafhlaehkaledaaW.PrintLast Go.Proofs.YtafhlaehkaledaaW.PrintMore
set_option linter.unusedVariables false
set_option linter.unusedSimpArgs false

theorem sizes_step0 (s : ByteArray) (n : Int) (P : List ByteArray) (x7 p : ByteArray) (c i : Int) (k : Nat) (hlt : i < c) (h0 : 0 ≤ i) (hl : i < (P.length : Int)) (hp : rdOf ByteArray.empty P i = p) (h1 : ¬ (p.size : Int) < 4) (h2 : ¬ wrap64 ((p.size : Int) - 4) > n)
    (h3 : wrap64 (i + 1) < (P.length : Int) → wrap64 ((p.size : Int) - 4) = n) (h4 : 4 ≤ (p.size : Int)) (h5 : x7.size + (p.extract 4 p.size).size ≤ 9223372036854775807) :
    counterfoillaw14_SegSizes.l0 (k + 1) s n P x7 P c i = counterfoillaw14_SegSizes.l0 k s n P (x7 ++ p.extract 4 p.size) P c (wrap64 (i + 1)) := by
  subst hp
  rw [counterfoillaw14_SegSizes.l0, if_pos hlt, if_pos h0, if_pos hl, if_neg h1, if_neg h2]
  by_cases h : wrap64 (i + 1) < (P.length : Int)
  · rw [if_pos h, if_pos (h3 h), if_pos h4, if_pos h5]
  · rw [if_neg h, if_pos h4, if_pos h5]
theorem sizes_end (s : ByteArray) (n : Int) (P : List ByteArray) (c i : Int) (k : Nat) (hlt : ¬ i < c) (hP : (P.length : Int) > 0) (ha : counterfoillaw14_awake.f k = some true) : counterfoillaw14_SegSizes.l0 (k + 1) s n P s P c i = some true := by
  rw [counterfoillaw14_SegSizes.l0, if_neg hlt, if_pos rfl, if_pos hP, ha]; rfl
theorem sizes_l0 (s : ByteArray) (n c : Nat) (hz : s.size ≤ 16384) (hn1 : 1 ≤ n) (hcc : c = cnt s.size n) (hc : c ≤ 16385) (d : Nat) : ∀ (i k : Nat), i + d = c → 70000 + d < k →
    counterfoillaw14_SegSizes.l0 k s n (piecesS s n c c) (s.extract 0 (min s.size (i * n))) (piecesS s n c c) (c : Int) (i : Int) = some true := by
  have hp1 : 1 ≤ c := by rw [hcc]; exact cnt_pos _ _
  induction d with
  | zero =>
    intro i k hi hk
    obtain ⟨k, rfl⟩ : ∃ m, k = m + 1 := ⟨k - 1, by omega⟩
    obtain rfl : i = c := by omega
    have he : s.size ≤ i * n := by have := cnt_end (z := s.size) hn1; rw [← hcc] at this; exact this
    rw [Nat.min_eq_left he, ByteArray.extract_zero_size]
    exact sizes_end s n _ _ _ k (by omega) (by rw [piecesS_length]; omega) (awake_eq (by omega))
  | succ d ih =>
    intro i k hi hk
    obtain ⟨k, rfl⟩ : ∃ m, k = m + 1 := ⟨k - 1, by omega⟩
    have e4 : wrap64 ((i : Int) + 1) = ((i + 1 : Nat) : Int) := by rw [wrap64_id (by omega) (by omega)]; omega
    have hs := cutAt_size s n i
    have hp := pieceS_size s n c i
    have hm : (i + 1) * n = i * n + n := Nat.succ_mul i n
    have ha : i * n ≤ s.size := cnt_at hn1 (by omega)
    have hnx : i + 1 < c → (i + 1) * n < s.size := fun h => (cnt_lt_iff hn1).1 (by omega)
    have ht := piece_tail s n c i
    have hu : s.extract 0 (i * n) ++ cutAt s n i = s.extract 0 (min s.size ((i + 1) * n)) := upto s _ _ (by omega)
    have hr := piecesS_rd s n c c i (by omega)
    have hx := ByteArray.size_extract (a := s) (b := 0) (e := i * n)
    rw [Nat.min_eq_right ha]
    generalize hq : i * n = q at *
    generalize hpp : (i + 1) * n = p at *
    generalize pieceS s n c i = t at *
    have e5 : wrap64 ((t.size : Int) - 4) = ((t.size - 4 : Nat) : Int) := by rw [wrap64_id (by omega) (by omega)]; omega
    rw [sizes_step0 s n _ (s.extract 0 q) t c i k (by omega) (by omega) (by rw [piecesS_length]; omega) hr (by omega) (by rw [e5]; omega) (by rw [e4, e5, piecesS_length]; intro h; have := hnx (by omega); omega) (by omega) (by rw [ht]; omega), ht, hu, e4, ← hpp]
    exact ih (i + 1) k (by omega) (by omega)
theorem sizes (s : ByteArray) (n : Int) (k : Nat) (L : List ByteArray) (e : Int) (hc : seg_Cut.f k s n = some (L, e)) (h1 : e = 0 → counterfoillaw14_SegSizes.l0 k s n L ⟨#[]⟩ L (L.length : Int) 0 = some true) (h2 : e ≠ 0 → L = []) (ha : counterfoillaw14_awake.f k = some true) : counterfoillaw14_SegSizes.f k s n = some true := by
  unfold counterfoillaw14_SegSizes.f
  by_cases h : (s.size : Int) > 16384
  · rw [if_pos h, ha]; rfl
  · rw [if_neg h, hc]
    simp only [Option.bind_some]
    by_cases h3 : e = 0
    · rw [if_pos h3]; exact h1 h3
    · rw [if_neg h3, h2 h3]; simp [ha]
theorem SegSizes : counterfoillaw14_SegSizes.Pure := by
  intro s n hs hn
  refine ⟨90000, ?_⟩
  have ha := awake_eq (k := 90000) (by decide)
  by_cases hz : (s.size : Int) > 16384
  · unfold counterfoillaw14_SegSizes.f
    rw [if_pos hz, ha]; rfl
  have hc := cut_eq s n hs (k := 90000) (by decide)
  unfold cutS at hc
  by_cases h1 : n < 1 ∨ 508 < n
  · rw [if_pos h1] at hc
    exact sizes s n 90000 [] 1 hc (fun h => absurd h (by decide)) (fun _ => rfl) ha
  · obtain ⟨n, rfl⟩ := Int.eq_ofNat_of_zero_le (a := n) (by omega)
    rw [if_neg h1, Int.toNat_natCast] at hc
    have hcl : cnt s.size n ≤ 16385 := Nat.le_trans (cnt_le _ _ (by omega)) (by omega)
    rw [if_neg (by omega)] at hc
    refine sizes s n 90000 _ 0 hc (fun _ => ?_) (fun h => absurd rfl h) ha
    have := sizes_l0 s n (cnt s.size n) (by omega) (by omega) rfl hcl (cnt s.size n) 0 90000 (by omega) (by omega)
    have e0 : (⟨#[]⟩ : ByteArray) = ByteArray.empty := rfl
    rw [piecesS_length, e0]
    simpa using this
end Go.Proofs.Ytafhlaehkaledaa.Pure
