/- The pieces of a text, fed in order, make it at the last one, whatever came ahead. -/
import Derived.Test.YtafhlaehkaledaaPx1
import Derived.Test.YtafhlaehkaledaaPx3
import Derived.Test.YtafhlaehkaledaaPx4
import Derived.Test.YtafhlaehkaledaaPx6
import Derived.Test.YtafhlaehkaledaaSegF
namespace Go.Proofs.Ytafhlaehkaledaa.Pure
open Go.RowKit Go.Proofs.Ytafhlaehkaledaa.P Go.Proofs.Ytafhlaehkaledaa.Core Go.Proofs.Ytafhlaehkaledaa.Oct Go.Proofs.Ytafhlaehkaledaa.Seg Go.Proofs.YtafhlaehkaledaaW.PrintWords Go.Proofs.YtafhlaehkaledaaW.PrintLast Go.Proofs.YtafhlaehkaledaaW.PrintMore
set_option linter.unusedVariables false
set_option linter.unusedSimpArgs false

theorem back_l1_end (s : ByteArray) (P Q : List ByteArray) (c i : Int) (k : Nat) (h : ¬ i < c) (ha : counterfoillaw14_awake.f k = some true) : counterfoillaw14_SegBack.l1 (k + 1) s P Q c i 0 [] = some true := by
  rw [counterfoillaw14_SegBack.l1, if_neg h]; simp [ha]
theorem back_l1_step (s : ByteArray) (P Q : List ByteArray) (c i of : Int) (l : List ByteArray) (k : Nat) (h : i < c) (h0 : 0 ≤ i) (hl : i < (Q.length : Int)) (of2 : Int) (l2 : List ByteArray) (t : ByteArray) (ok : Bool) (hf : seg_Feed.f k of l (rdOf ByteArray.empty Q i) = some (of2, l2, t, ok, 0))
    (hok : ok = (i == wrap64 ((P.length : Int) - 1))) (ht : ok = true → t = s) (ht2 : ok = false → t = mk []) :
    counterfoillaw14_SegBack.l1 (k + 1) s P Q c i of l = counterfoillaw14_SegBack.l1 k s P Q c (wrap64 (i + 1)) of2 l2 := by
  rw [counterfoillaw14_SegBack.l1, if_pos h, if_pos h0, if_pos hl, hf]
  simp only [Option.bind_some]
  rw [if_pos trivial, if_neg (by rw [hok]; simp)]
  cases ok with
  | true => rw [if_pos rfl, ht rfl, if_pos rfl]
  | false => rw [if_neg (by decide), ht2 rfl, if_pos (by simp [mk, ByteArray.toList_eq])]
theorem wrap_succ (i : Nat) (h : i ≤ 100000) : wrap64 ((i : Int) + 1) = ((i + 1 : Nat) : Int) := by rw [wrap64_id (by omega) (by omega)]; omega
theorem back_l1 (s : ByteArray) (n c : Nat) (hz : s.size ≤ 4096) (hn1 : 1 ≤ n) (hcc : c = cnt s.size n) (hc : c ≤ 4097) (d : Nat) : ∀ (i k : Nat), i + d + 1 = c → 300000 + d < k → ∀ (of : Int) (l : List ByteArray), (i ≠ 0 → of = (c : Int) ∧ l = partsS s n i) → l.length ≤ 5000 → tot l ≤ 10000 →
    counterfoillaw14_SegBack.l1 k s (piecesS s n c c) (piecesS s n c c) (c : Int) (i : Int) of l = some true := by
  induction d with
  | zero =>
    intro i k hi hk of l hof hll htl
    obtain ⟨k, rfl⟩ : ∃ m, k = m + 2 := ⟨k - 2, by omega⟩
    have hcs := cutAt_size s n i
    have hps := pieceS_size s n c i
    have hf := feed_eq of l (pieceS s n c i) (by omega) (by omega) (k := k + 1) (by omega)
    rw [feed_piece of l s n c i (by omega) (by omega), ← piecesS_rd s n c c i (by omega)] at hf
    have hr : feedN of l i c (cutAt s n i) = (0, [], s, true, 0) := by
      by_cases h0 : i = 0
      · subst h0
        rw [feed_first of l s n c (by omega), if_neg (by omega), show (1 : Nat) = c by omega, hcc, cat_all s n hn1]
      · obtain ⟨h1, h2⟩ := hof h0
        rw [h1, h2, feed_next s n c i h0 (by omega), if_neg (by omega), show i + 1 = c by omega, hcc, cat_all s n hn1]
    rw [hr] at hf
    have hok : true = ((i : Int) == wrap64 (((piecesS s n c c).length : Int) - 1)) := by
      rw [piecesS_length, wrap64_id (by omega) (by omega)]
      symm
      rw [beq_iff_eq]
      omega
    rw [back_l1_step s _ _ _ _ _ _ (k + 1) (by omega) (by omega) (by rw [piecesS_length]; omega) 0 [] s true hf hok (fun _ => rfl) (fun h => by cases h), wrap_succ i (by omega)]
    exact back_l1_end s _ _ _ _ k (by omega) (awake_eq (by omega))
  | succ d ih =>
    intro i k hi hk of l hof hll htl
    obtain ⟨k, rfl⟩ : ∃ m, k = m + 1 := ⟨k - 1, by omega⟩
    have hcs := cutAt_size s n i
    have hps := pieceS_size s n c i
    have hf := feed_eq of l (pieceS s n c i) (by omega) (by omega) (k := k) (by omega)
    rw [feed_piece of l s n c i (by omega) (by omega), ← piecesS_rd s n c c i (by omega)] at hf
    have hr : feedN of l i c (cutAt s n i) = ((c : Int), partsS s n (i + 1), mk [], false, 0) := by
      by_cases h0 : i = 0
      · subst h0
        rw [feed_first of l s n c (by omega), if_pos (by omega)]
      · obtain ⟨h1, h2⟩ := hof h0
        rw [h1, h2, feed_next s n c i h0 (by omega), if_pos (by omega)]
    rw [hr] at hf
    have hok : false = ((i : Int) == wrap64 (((piecesS s n c c).length : Int) - 1)) := by
      rw [piecesS_length, wrap64_id (by omega) (by omega)]
      symm
      rw [beq_eq_false_iff_ne]
      omega
    rw [back_l1_step s _ _ _ _ _ _ k (by omega) (by omega) (by rw [piecesS_length]; omega) _ _ (mk []) false hf hok (fun h => by cases h) (fun _ => rfl), wrap_succ i (by omega)]
    have htp := tot_parts s n (i + 1)
    exact ih (i + 1) k (by omega) (by omega) _ _ (fun _ => ⟨rfl, rfl⟩) (by rw [partsS_length]; omega) (by omega)
theorem back_l0_end (s : ByteArray) (P A : List ByteArray) (c i of : Int) (l : List ByteArray) (k : Nat) (h : ¬ i < c) : counterfoillaw14_SegBack.l0 (k + 1) s P A c i of l = counterfoillaw14_SegBack.l1 k s P P (P.length : Int) 0 of l := by
  rw [counterfoillaw14_SegBack.l0, if_neg h]
theorem back_l0_step (s : ByteArray) (P A : List ByteArray) (c i of : Int) (l : List ByteArray) (k : Nat) (h : i < c) (h0 : 0 ≤ i) (hl : i < (A.length : Int)) (x : Fed) (hf : seg_Feed.f k of l (rdOf ByteArray.empty A i) = some x) :
    counterfoillaw14_SegBack.l0 (k + 1) s P A c i of l = counterfoillaw14_SegBack.l0 k s P A c (wrap64 (i + 1)) x.1 x.2.1 := by
  rw [counterfoillaw14_SegBack.l0, if_pos h, if_pos h0, if_pos hl, hf]
  rfl
theorem back_l0 (s : ByteArray) (n c : Nat) (hz : s.size ≤ 4096) (hn1 : 1 ≤ n) (hcc : c = cnt s.size n) (hc : c ≤ 4097) (A : List ByteArray) (hA : A.length ≤ 20) (hA2 : tot A ≤ 4096) (d : Nat) : ∀ (i k : Nat), i + d = A.length → 400000 + d < k → ∀ (of : Int) (l : List ByteArray), l.length ≤ i → tot l + tot (A.drop i) ≤ 4096 →
    counterfoillaw14_SegBack.l0 k s (piecesS s n c c) A (A.length : Int) (i : Int) of l = some true := by
  have hp1 : 1 ≤ c := by rw [hcc]; exact cnt_pos _ _
  induction d with
  | zero =>
    intro i k hi hk of l hll htl
    obtain ⟨k, rfl⟩ : ∃ m, k = m + 1 := ⟨k - 1, by omega⟩
    rw [back_l0_end s _ A _ _ of l k (by omega), piecesS_length]
    exact back_l1 s n c hz hn1 hcc hc (c - 1) 0 k (by omega) (by omega) of l (fun h => absurd rfl h) (by omega) (by omega)
  | succ d ih =>
    intro i k hi hk of l hll htl
    obtain ⟨k, rfl⟩ : ∃ m, k = m + 1 := ⟨k - 1, by omega⟩
    rw [rdOf_drop A i (by omega)] at htl
    simp only [tot] at htl
    have hf := feed_eq of l (rdOf ByteArray.empty A (i : Int)) (by omega) (by omega) (k := k) (by omega)
    have hb := feed_bound of l (rdOf ByteArray.empty A (i : Int))
    rw [back_l0_step s _ A _ _ of l k (by omega) (by omega) (by omega) _ hf, wrap_succ i (by omega)]
    exact ih (i + 1) k (by omega) (by omega) _ _ (by omega) (by omega)
theorem back_j_true (s : ByteArray) (n : Int) (l : List ByteArray) (k : Nat) (ha : counterfoillaw14_awake.f k = some true) : counterfoillaw14_SegBack.j0 (k + 1) s n l true = some true := by
  rw [counterfoillaw14_SegBack.j0, if_pos rfl, ha]; rfl
theorem back_j_false (s : ByteArray) (n : Int) (l : List ByteArray) (k : Nat) (L : List ByteArray) (e : Int) (hc : seg_Cut.f k s n = some (L, e)) (h1 : e = 0 → counterfoillaw14_SegBack.l0 k s L l (l.length : Int) 0 0 [] = some true) (h2 : e ≠ 0 → n < 1 ∨ n > 508) (ha : counterfoillaw14_awake.f k = some true) :
    counterfoillaw14_SegBack.j0 (k + 1) s n l false = some true := by
  rw [counterfoillaw14_SegBack.j0, if_neg (by decide), hc]
  simp only [Option.bind_some]
  by_cases h : e = 0
  · rw [if_pos h]; exact h1 h
  · rw [if_neg h]
    by_cases h3 : n < 1
    · rw [if_pos h3, ha]; rfl
    · rw [if_neg h3, if_pos (by have := h2 h; omega), ha]; rfl
theorem back (s : ByteArray) (n : Int) (l : List ByteArray) (k : Nat) (b : Bool) (hs : ¬ (s.size : Int) > 4096 → counterfoilref01_Small.f k l 20 4096 = some b) (h1 : counterfoillaw14_SegBack.j0 k s n l true = some true) (h2 : ¬ (s.size : Int) > 4096 → b = true → counterfoillaw14_SegBack.j0 k s n l false = some true) :
    counterfoillaw14_SegBack.f k s n l = some true := by
  unfold counterfoillaw14_SegBack.f
  by_cases h : (s.size : Int) > 4096
  · rw [if_pos h]; exact h1
  · rw [if_neg h, hs h]
    simp only [Option.bind_some]
    cases b with
    | true => exact h2 h rfl
    | false => exact h1
theorem SegBack : counterfoillaw14_SegBack.Pure := by
  intro s n l hs hn hl
  obtain ⟨h1, h2, h3⟩ := hl
  refine ⟨500001, ?_⟩
  have ha := awake_eq (k := 500000) (by decide)
  have hc := cut_eq s n hs (k := 500000) (by decide)
  have hsm := small_eq l 20 4096 (by decide) h3 (by omega) (k := 500001) (by decide)
  refine back s n l 500001 _ (fun _ => hsm) (back_j_true s n l 500000 ha) (fun hz hb => ?_)
  have hb2 := of_decide_eq_true hb
  refine back_j_false s n l 500000 (cutS s n).1 (cutS s n).2 hc (fun he => ?_) (fun he => ?_) ha
  · unfold cutS at he ⊢
    by_cases h1 : n < 1 ∨ 508 < n
    · rw [if_pos h1] at he; exact absurd he (by decide)
    · obtain ⟨n, rfl⟩ := Int.eq_ofNat_of_zero_le (a := n) (by omega)
      have hcl : cnt s.size n ≤ 4097 := Nat.le_trans (cnt_le _ _ (by omega)) (by omega)
      rw [if_neg h1, Int.toNat_natCast, if_neg (show ¬ 65535 < cnt s.size n by omega)]
      have := back_l0 s n (cnt s.size n) (by omega) (by omega) rfl hcl l hb2.1 hb2.2 l.length 0 500000 (by omega) (by omega) 0 [] (by simp) (by simp [tot]; omega)
      simpa using this
  · unfold cutS at he
    by_cases h1 : n < 1 ∨ 508 < n
    · omega
    · exfalso
      obtain ⟨n, rfl⟩ := Int.eq_ofNat_of_zero_le (a := n) (by omega)
      have hcl : cnt s.size n ≤ 4097 := Nat.le_trans (cnt_le _ _ (by omega)) (by omega)
      rw [if_neg h1, Int.toNat_natCast, if_neg (show ¬ 65535 < cnt s.size n by omega)] at he
      exact he rfl
end Go.Proofs.Ytafhlaehkaledaa.Pure
