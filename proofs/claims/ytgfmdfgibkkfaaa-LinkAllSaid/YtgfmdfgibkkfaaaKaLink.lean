import Derived.Test.YtgfmdfgibkkfaaaKaPx1
import Derived.Test.YtgfmdfgibkkfaaaKaPx2
import Derived.Test.YtgfmdfgibkkfaaaKaOctB
import Derived.Test.YtgfmdfgibkkfaaaKaSmall
import Derived.Test.YtgfmdfgibkkfaaaKaFrame
set_option linter.unusedVariables false
set_option linter.unusedSimpArgs false
namespace Go.Proofs.Ytgfmdfgibkkfaaa.Link
open Go.RowKit Go.Proofs.Ytgfmdfgibkkfaaa.P Go.Proofs.Ytgfmdfgibkkfaaa.Core Go.Proofs.Ytgfmdfgibkkfaaa.Oct Go.Proofs.Ytgfmdfgibkkfaaa.Frame Go.Proofs.YtgfmdfgibkkfaaaW.PrintWords Go.Proofs.YtgfmdfgibkkfaaaW.PrintLast Go.Proofs.YtgfmdfgibkkfaaaW.PrintMore
theorem number_dec (a b : Int) : link_number.f a b = some (decide (b ≤ a ∧ a ≤ 1099511627776)) := by
  unfold link_number.f
  by_cases h : a ≥ b
  · rw [if_pos h]; exact congrArg some (decide_eq_decide.2 (by omega))
  · rw [if_neg h]; exact congrArg some (decide_eq_false (by omega)).symm
theorem idx_neg (l : List ByteArray) : ∀ i : Int, 0 ≤ i → (0 ≤ slices_IndexFunc_string_string.idx l i ↔ ¬ ∀ s ∈ l, s.size ≤ 512) := by
  induction l with
  | nil => intro i hi; simp [slices_IndexFunc_string_string.idx]
  | cons a r ih =>
    intro i hi
    simp only [slices_IndexFunc_string_string.idx]
    by_cases h : 512 < a.size
    · rw [if_pos h]
      exact ⟨fun _ h2 => absurd (h2 a List.mem_cons_self) (by omega), fun _ => hi⟩
    · rw [if_neg h, ih (i + 1) (by omega)]
      refine not_congr ⟨fun h2 s hs => ?_, fun h2 s hs => h2 s (List.mem_cons_of_mem _ hs)⟩
      rcases List.mem_cons.1 hs with rfl | hs
      · omega
      · exact h2 s hs
theorem contains_eq (l : List ByteArray) : slices_ContainsFunc_string_string.f l 36 = some (decide (¬ ∀ s ∈ l, s.size ≤ 512)) := by
  unfold slices_ContainsFunc_string_string.f slices_IndexFunc_string_string.f
  rw [if_pos rfl]
  simp only [Option.bind_some]
  exact congrArg some (decide_eq_decide.2 (idx_neg l 0 (by omega)))
def rightS (a o f : Int) (l : List ByteArray) (w : Int) : Bool := decide ((1 ≤ a ∧ a ≤ 1099511627776) ∧ (0 ≤ o ∧ o ≤ 1099511627776) ∧ (1 ≤ f ∧ f ≤ 1099511627776) ∧ (1 ≤ w ∧ w ≤ 1099511627776) ∧ l.length ≤ 64 ∧ ∀ s ∈ l, s.size ≤ 512)
theorem right_eq (a o f : Int) (l : List ByteArray) (w : Int) : link_Right.f a o f l w = some (rightS a o f l w) := by
  unfold link_Right.f rightS
  simp only [number_dec, Option.bind_some]
  by_cases h1 : 1 ≤ a ∧ a ≤ 1099511627776
  · rw [decide_eq_true h1, if_pos rfl]
    by_cases h2 : 0 ≤ o ∧ o ≤ 1099511627776
    · rw [decide_eq_true h2, if_pos rfl]
      by_cases h3 : 1 ≤ f ∧ f ≤ 1099511627776
      · rw [decide_eq_true h3, if_pos rfl]
        by_cases h4 : 1 ≤ w ∧ w ≤ 1099511627776
        · rw [decide_eq_true h4, if_pos rfl]
          by_cases h5 : l.length ≤ 64
          · rw [if_pos (by omega), contains_eq]
            simp only [Option.bind_some]
            by_cases h6 : ∀ s ∈ l, s.size ≤ 512
            · rw [decide_eq_false (not_not_intro h6), decide_eq_true ⟨h1, h2, h3, h4, h5, h6⟩]; rfl
            · rw [decide_eq_true h6]; exact congrArg some (decide_eq_false (fun h => h6 h.2.2.2.2.2)).symm
          · rw [if_neg (by omega)]; exact congrArg some (decide_eq_false (fun h => h5 h.2.2.2.2.1)).symm
        · rw [decide_eq_false h4, if_neg (by decide)]; exact congrArg some (decide_eq_false (fun h => h4 h.2.2.2.1)).symm
      · rw [decide_eq_false h3, if_neg (by decide)]; exact congrArg some (decide_eq_false (fun h => h3 h.2.2.1)).symm
    · rw [decide_eq_false h2, if_neg (by decide)]; exact congrArg some (decide_eq_false (fun h => h2 h.2.1)).symm
  · rw [decide_eq_false h1, if_neg (by decide)]; exact congrArg some (decide_eq_false (fun h => h1 h.1)).symm
theorem put_eight (x : Nat) (h : x < 9223372036854775808) {k : Nat} (hk : 12 ≤ k) : octet_Put.f k (x : Int) 8 = some (mk (digs x 8), 0) := by
  rw [put_eq (by rw [wf_i64]; omega) (by decide) hk]
  have := putS_of (n := x) (w := 8) (by omega) (by omega) (by omega)
  rw [show ((8 : Nat) : Int) = 8 from rfl] at this
  rw [this]
def bodyS (a o n w : Nat) (s : ByteArray) : ByteArray := mk (digs a 8) ++ mk (digs o 8) ++ mk (digs n 8) ++ mk (digs w 8) ++ s
theorem eight_size (x : Nat) : (mk (digs x 8)).size = 8 := by rw [mk_size, digs_length]
theorem bodyS_size (a o n w : Nat) (s : ByteArray) : (bodyS a o n w s).size = 32 + s.size := by
  unfold bodyS; simp only [ByteArray.size_append, eight_size]
def packetS (kind : Int) (a o n w : Nat) (s : ByteArray) : ByteArray := (sealS kind (bodyS a o n w s)).1
theorem p_step (kind : Int) (s acc t : ByteArray) (L : List Int) (c i e : Int) (k : Nat) (h1 : i < c) (h2 : 0 ≤ i) (h3 : i < (L.length : Int)) (hp : octet_Put.f k (rd L i) 8 = some (t, e)) (h4 : (bytesOf acc).length + t.size < 140737488355328) :
    link_End_packet.l0 (k + 1) kind s (bytesOf acc) L c i = link_End_packet.l0 k kind s (bytesOf (acc ++ t)) L c (wrap64 (i + 1)) := by
  rw [link_End_packet.l0, if_pos h1, if_pos h2, if_pos h3, hp]
  simp only [Option.bind_some]
  rw [if_pos h4, ← bytesOf_append]
theorem p_end (kind : Int) (s acc : ByteArray) (L : List Int) (c i : Int) (k : Nat) (h1 : ¬ i < c) (h2 : acc.size + s.size ≤ 9223372036854775807) (hk : 13 ≤ k) : link_End_packet.l0 (k + 1) kind s (bytesOf acc) L c i = some (sealS kind (acc ++ s)).1 := by
  rw [link_End_packet.l0, if_neg h1, strOfNums_bytesOf, if_pos h2, seal_eq _ _ hk]
  rfl
theorem packet_eq (kind f : Int) (l : List ByteArray) (a o n w : Nat) (s : ByteArray) (ha : a < 9223372036854775808) (ho : o < 9223372036854775808) (hn : n < 9223372036854775808) (hw : w < 9223372036854775808) (hs : s.size ≤ 140737488351232) {k : Nat} (hk : 20 ≤ k) :
    link_End_packet.f k a o f l w kind n s = some (packetS kind a o n w s) := by
  obtain ⟨k, rfl⟩ : ∃ m, k = m + 5 := ⟨k - 5, by omega⟩
  unfold link_End_packet.f
  simp only [Option.bind_some]
  generalize hL : ([(a : Int), (o : Int), (n : Int), (w : Int)] : List Int) = L
  have hlen : L.length = 4 := by rw [← hL]; rfl
  have r0 : rd L 0 = (a : Int) := by rw [← hL]; rfl
  have r1 : rd L 1 = (o : Int) := by rw [← hL]; rfl
  have r2 : rd L 2 = (n : Int) := by rw [← hL]; rfl
  have r3 : rd L 3 = (w : Int) := by rw [← hL]; rfl
  have e0 : ([] : List Int) = bytesOf (mk []) := by simp [bytesOf, mk]
  rw [hlen, e0, show ((4 : Nat) : Int) = 4 from rfl]
  have hz : ∀ b : ByteArray, (bytesOf b).length = b.size := bytesOf_length
  rw [p_step kind s (mk []) (mk (digs a 8)) L 4 0 0 (k + 4) (by decide) (by decide) (by rw [hlen]; decide) (by rw [r0]; exact put_eight a ha (by omega)) (by rw [hz, eight_size, mk_size]; decide), show wrap64 (0 + 1) = 1 from wrap64_id (by decide) (by decide), empty_append]
  rw [p_step kind s _ (mk (digs o 8)) L 4 1 0 (k + 3) (by decide) (by decide) (by rw [hlen]; decide) (by rw [r1]; exact put_eight o ho (by omega)) (by rw [hz, eight_size, eight_size]; decide), show wrap64 (1 + 1) = 2 from wrap64_id (by decide) (by decide)]
  rw [p_step kind s _ (mk (digs n 8)) L 4 2 0 (k + 2) (by decide) (by decide) (by rw [hlen]; decide) (by rw [r2]; exact put_eight n hn (by omega)) (by rw [hz, ByteArray.size_append, eight_size, eight_size, eight_size]; decide), show wrap64 (2 + 1) = 3 from wrap64_id (by decide) (by decide)]
  rw [p_step kind s _ (mk (digs w 8)) L 4 3 0 (k + 1) (by decide) (by decide) (by rw [hlen]; decide) (by rw [r3]; exact put_eight w hw (by omega)) (by rw [hz, ByteArray.size_append, ByteArray.size_append, eight_size, eight_size, eight_size, eight_size]; decide), show wrap64 (3 + 1) = 4 from wrap64_id (by decide) (by decide)]
  exact p_end kind s _ L 4 4 k (by decide) (by simp only [ByteArray.size_append, eight_size]; omega) (by omega)
end Go.Proofs.Ytgfmdfgibkkfaaa.Link
