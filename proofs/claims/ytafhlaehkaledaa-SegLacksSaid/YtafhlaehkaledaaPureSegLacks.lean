/- Where a piece lacks in the midst the text is not made. -/
import Derived.Test.YtafhlaehkaledaaPx1
import Derived.Test.YtafhlaehkaledaaPx4
import Derived.Test.YtafhlaehkaledaaPx7
import Derived.Test.YtafhlaehkaledaaSegF
namespace Go.Proofs.Ytafhlaehkaledaa.Pure
open Go.RowKit Go.Proofs.Ytafhlaehkaledaa.P Go.Proofs.Ytafhlaehkaledaa.Core Go.Proofs.Ytafhlaehkaledaa.Oct Go.Proofs.Ytafhlaehkaledaa.Seg Go.Proofs.YtafhlaehkaledaaW.PrintWords Go.Proofs.YtafhlaehkaledaaW.PrintLast Go.Proofs.YtafhlaehkaledaaW.PrintMore
set_option linter.unusedVariables false
set_option linter.unusedSimpArgs false

theorem lacks_end (x2 : Int) (P : List ByteArray) (c i of : Int) (l : List ByteArray) (k : Nat) (h : ¬ i < c) (ha : counterfoillaw14_awake.f k = some true) : counterfoillaw14_SegLacks.l0 (k + 1) x2 P c i of l = some true := by
  rw [counterfoillaw14_SegLacks.l0, if_neg h, ha]; rfl
theorem lacks_skip (x2 : Int) (P : List ByteArray) (c i of : Int) (l : List ByteArray) (k : Nat) (h : i < c) (h0 : 0 ≤ i) (hl : i < (P.length : Int)) (he : i = x2) :
    counterfoillaw14_SegLacks.l0 (k + 1) x2 P c i of l = counterfoillaw14_SegLacks.l0 k x2 P c (wrap64 (i + 1)) of l := by
  rw [counterfoillaw14_SegLacks.l0, if_pos h, if_pos h0, if_pos hl, if_pos he]
theorem lacks_feed (x2 : Int) (P : List ByteArray) (c i of : Int) (l : List ByteArray) (k : Nat) (h : i < c) (h0 : 0 ≤ i) (hl : i < (P.length : Int)) (he : ¬ i = x2) (of2 : Int) (l2 : List ByteArray) (t : ByteArray) (e : Int) (hf : seg_Feed.f k of l (rdOf ByteArray.empty P i) = some (of2, l2, t, false, e)) :
    counterfoillaw14_SegLacks.l0 (k + 1) x2 P c i of l = counterfoillaw14_SegLacks.l0 k x2 P c (wrap64 (i + 1)) of2 l2 := by
  rw [counterfoillaw14_SegLacks.l0, if_pos h, if_pos h0, if_pos hl, if_neg he, hf]
  simp only [Option.bind_some]
  rw [if_neg (by decide)]
theorem wrap_succ (i : Nat) (h : i ≤ 100000) : wrap64 ((i : Int) + 1) = ((i + 1 : Nat) : Int) := by rw [wrap64_id (by omega) (by omega)]; omega
theorem lacks_after (s : ByteArray) (n c lack : Nat) (hz : s.size ≤ 4096) (hc : c ≤ 4097) (d : Nat) : ∀ (i k : Nat), i + d = c → 300000 + d < k → lack < i → ∀ (of : Int) (l : List ByteArray), (l.length ≠ i) → l.length ≤ 5000 → tot l ≤ 4096 →
    counterfoillaw14_SegLacks.l0 k (lack : Int) (piecesS s n c c) (c : Int) (i : Int) of l = some true := by
  induction d with
  | zero =>
    intro i k hi hk hlt of l _ _ _
    obtain ⟨k, rfl⟩ : ∃ m, k = m + 1 := ⟨k - 1, by omega⟩
    exact lacks_end _ _ _ _ _ _ k (by omega) (awake_eq (by omega))
  | succ d ih =>
    intro i k hi hk hlt of l hne hll htl
    obtain ⟨k, rfl⟩ : ∃ m, k = m + 1 := ⟨k - 1, by omega⟩
    have hcs := cutAt_size s n i
    have hps := pieceS_size s n c i
    have hf := feed_eq of l (pieceS s n c i) (by omega) (by omega) (k := k) (by omega)
    rw [feed_piece of l s n c i (by omega) (by omega), feed_gap of l c i _ (by omega) (by omega) (by omega), ← piecesS_rd s n c c i (by omega)] at hf
    rw [lacks_feed _ _ _ _ _ _ k (by omega) (by omega) (by rw [piecesS_length]; omega) (by omega) 0 [] (mk []) 8 hf, wrap_succ i (by omega)]
    exact ih (i + 1) k (by omega) (by omega) (by omega) 0 [] (by simp) (by simp) (by simp [tot])
theorem lacks_at (s : ByteArray) (n c lack : Nat) (hz : s.size ≤ 4096) (hc : c ≤ 4097) (hlc : lack < c) (k : Nat) (hk : 310000 < k) (of : Int) :
    counterfoillaw14_SegLacks.l0 k (lack : Int) (piecesS s n c c) (c : Int) (lack : Int) of (partsS s n lack) = some true := by
  obtain ⟨k, rfl⟩ : ∃ m, k = m + 1 := ⟨k - 1, by omega⟩
  rw [lacks_skip _ _ _ _ _ _ k (by omega) (by omega) (by rw [piecesS_length]; omega) rfl, wrap_succ lack (by omega)]
  have := tot_parts s n lack
  exact lacks_after s n c lack hz hc (c - (lack + 1)) (lack + 1) k (by omega) (by omega) (by omega) of _ (by rw [partsS_length]; omega) (by rw [partsS_length]; omega) (by omega)
theorem lacks_l0 (s : ByteArray) (n c lack : Nat) (hz : s.size ≤ 4096) (hc : c ≤ 4097) (hlc : lack < c) (d : Nat) : ∀ (i k : Nat), i + d = lack → 320000 + d < k → ∀ of : Int, (i ≠ 0 → of = (c : Int)) →
    counterfoillaw14_SegLacks.l0 k (lack : Int) (piecesS s n c c) (c : Int) (i : Int) of (partsS s n i) = some true := by
  induction d with
  | zero =>
    intro i k hi hk of _
    obtain rfl : i = lack := by omega
    exact lacks_at s n c i hz hc hlc k (by omega) of
  | succ d ih =>
    intro i k hi hk of hof
    obtain ⟨k, rfl⟩ : ∃ m, k = m + 1 := ⟨k - 1, by omega⟩
    have hcs := cutAt_size s n i
    have hps := pieceS_size s n c i
    have htp := tot_parts s n i
    have hf := feed_eq of (partsS s n i) (pieceS s n c i) (by rw [partsS_length]; omega) (by omega) (k := k) (by omega)
    rw [feed_piece of _ s n c i (by omega) (by omega), ← piecesS_rd s n c c i (by omega)] at hf
    have hr : feedN of (partsS s n i) i c (cutAt s n i) = ((c : Int), partsS s n (i + 1), mk [], false, 0) := by
      by_cases h0 : i = 0
      · subst h0
        rw [feed_first of _ s n c (by omega), if_pos (by omega)]
      · rw [hof h0, feed_next s n c i h0 (by omega), if_pos (by omega)]
    rw [hr] at hf
    rw [lacks_feed _ _ _ _ _ _ k (by omega) (by omega) (by rw [piecesS_length]; omega) (by omega) _ _ (mk []) 0 hf, wrap_succ i (by omega)]
    exact ih (i + 1) k (by omega) (by omega) _ (fun _ => rfl)
theorem lacks_j_true (x2 : Int) (L : List ByteArray) (k : Nat) (ha : counterfoillaw14_awake.f k = some true) : counterfoillaw14_SegLacks.j0 (k + 1) x2 L true = some true := by
  rw [counterfoillaw14_SegLacks.j0, if_pos rfl, ha]; rfl
theorem lacks_j_false (x2 : Int) (L : List ByteArray) (k : Nat) (h : counterfoillaw14_SegLacks.l0 k x2 L (L.length : Int) 0 0 [] = some true) : counterfoillaw14_SegLacks.j0 (k + 1) x2 L false = some true := by
  rw [counterfoillaw14_SegLacks.j0, if_neg (by decide)]; exact h
theorem lacks (s : ByteArray) (n lack : Int) (k : Nat) (L : List ByteArray) (e : Int) (hc : ¬ (s.size : Int) > 4096 → seg_Cut.f k s n = some (L, e)) (h1 : counterfoillaw14_SegLacks.j0 k lack L true = some true) (h2 : ¬ (s.size : Int) > 4096 → e = 0 → ¬ lack < 0 → counterfoillaw14_SegLacks.j0 k lack L (decide (lack ≥ (L.length : Int))) = some true)
    (ha : counterfoillaw14_awake.f k = some true) : counterfoillaw14_SegLacks.f k s n lack = some true := by
  unfold counterfoillaw14_SegLacks.f
  by_cases h : (s.size : Int) > 4096
  · rw [if_pos h, ha]; rfl
  · rw [if_neg h, hc h]
    simp only [Option.bind_some]
    by_cases h3 : e = 0
    · rw [if_pos h3]
      by_cases h4 : lack < 0
      · rw [if_pos h4]; exact h1
      · rw [if_neg h4]; exact h2 h h3 h4
    · rw [if_neg h3]; exact h1
theorem SegLacks : counterfoillaw14_SegLacks.Pure := by
  intro s n lack hs hn hlk
  refine ⟨400001, ?_⟩
  have ha := awake_eq (k := 400000) (by decide)
  have ha1 := awake_eq (k := 400001) (by decide)
  have hc := cut_eq s n hs (k := 400001) (by decide)
  refine lacks s n lack 400001 (cutS s n).1 (cutS s n).2 (fun _ => hc) (lacks_j_true _ _ 400000 ha) (fun hz he hl0 => ?_) ha1
  obtain ⟨lack, rfl⟩ := Int.eq_ofNat_of_zero_le (a := lack) (by omega)
  unfold cutS at he ⊢
  by_cases h1 : n < 1 ∨ 508 < n
  · rw [if_pos h1] at he; exact absurd he (by decide)
  · obtain ⟨n, rfl⟩ := Int.eq_ofNat_of_zero_le (a := n) (by omega)
    rw [if_neg h1, Int.toNat_natCast] at he ⊢
    have hcl : cnt s.size n ≤ 4097 := Nat.le_trans (cnt_le _ _ (by omega)) (by omega)
    rw [if_neg (show ¬ 65535 < cnt s.size n by omega)] at he ⊢
    simp only [piecesS_length]
    by_cases hlc : lack < cnt s.size n
    · rw [decide_eq_false (by omega)]
      have := lacks_l0 s n (cnt s.size n) lack (by omega) hcl hlc lack 0 400000 (by omega) (by omega) 0 (fun h => absurd rfl h)
      refine lacks_j_false _ _ 400000 ?_
      rw [piecesS_length]
      simpa [partsS] using this
    · rw [decide_eq_true (by omega)]
      exact lacks_j_true _ _ 400000 ha
end Go.Proofs.Ytafhlaehkaledaa.Pure
