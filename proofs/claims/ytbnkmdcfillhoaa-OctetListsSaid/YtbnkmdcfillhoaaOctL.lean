import Derived.Test.YtbnkmdcfillhoaaPx4
import Derived.Test.YtbnkmdcfillhoaaOctB
import Derived.Test.YtbnkmdcfillhoaaSmall
set_option linter.unusedVariables false
set_option linter.unusedSimpArgs false
namespace Go.Proofs.Ytbnkmdcfillhoaa.Oct
open Go.RowKit Go.Proofs.Ytbnkmdcfillhoaa.P Go.Proofs.Ytbnkmdcfillhoaa.Core Go.Proofs.YtbnkmdcfillhoaaW.PrintWords Go.Proofs.YtbnkmdcfillhoaaW.PrintLast Go.Proofs.YtbnkmdcfillhoaaW.PrintMore

/-- A list's texts, behind what is written. -/
def listT : List ByteArray → ByteArray → ByteArray × Int
  | [], acc => (acc, 0)
  | s :: r, acc => if 65535 < s.size then (mk [], 5) else listT r (acc ++ (mk (digs s.size 2) ++ s))
def listS (l : List ByteArray) : ByteArray × Int := if 65535 < l.length then (mk [], 5) else listT l (mk (digs l.length 2))

theorem strOfNums_bytesOf (s : ByteArray) : strOfNums (bytesOf s) = s := by
  apply ba_ext
  rw [strOfNums_mk, mk_data, bytesOf, List.map_map]
  conv => rhs; rw [← List.map_id s.data.toList]
  apply List.map_congr_left
  intro b _
  simp
theorem bytesOf_append (a b : ByteArray) : bytesOf (a ++ b) = bytesOf a ++ bytesOf b := by simp [bytesOf]
theorem list_go (l : List ByteArray) : ∀ (acc : ByteArray) (k : Nat), 12 ≤ k → (∀ s ∈ l, s.size ≤ 140737488351232) → acc.size + tot l + 2 * l.length ≤ 140737488351232 → octet_List.go k l (bytesOf acc) = some (listT l acc) := by
  induction l with
  | nil => intro acc k hk hs hz; simp only [octet_List.go, listT, strOfNums_bytesOf]
  | cons s r ih =>
    intro acc k hk hs hz
    simp only [tot, List.length_cons] at hz
    simp only [octet_List.go, listT]
    rw [text_eq s (hs s List.mem_cons_self) hk]
    simp only [Option.bind_some]
    unfold textS
    by_cases h : 65535 < s.size
    · rw [if_pos h, if_pos h, if_neg (by decide), empty_mk]
    · rw [if_neg h, if_neg h]
      have hz2 : (mk (digs s.size 2) ++ s).size = 2 + s.size := by rw [ByteArray.size_append, mk_size, digs_length]
      dsimp only
      rw [if_pos (rfl : (0 : Int) = 0), if_pos (by rw [bytesOf_length, hz2]; omega), ← bytesOf_append]
      exact ih _ k hk (fun x hx => hs x (List.mem_cons_of_mem _ hx)) (by rw [ByteArray.size_append, hz2]; omega)
theorem list_eq (l : List ByteArray) (hl : l.length ≤ 140737488351232) (hs : ∀ s ∈ l, s.size ≤ 140737488351232) (hz : tot l + 2 * l.length + 2 ≤ 140737488351232) {k : Nat} (hk : 12 ≤ k) : octet_List.f k l = some (listS l) := by
  unfold octet_List.f listS
  by_cases h : 65535 < l.length
  · rw [if_pos (by omega), if_pos h, empty_mk]
  · rw [if_neg (by omega), if_neg h, put_eq (by rw [wf_i64]; omega) (by decide) hk]
    have := putS_of (n := l.length) (w := 2) (by omega) (by omega) (by omega)
    rw [show ((2 : Nat) : Int) = 2 from rfl] at this
    rw [this]
    simp only [Option.bind_some]
    rw [if_pos (by rw [mk_size, digs_length]; omega)]
    exact list_go l _ k hk hs (by rw [mk_size, digs_length]; omega)
theorem rlist_l0 (l : List ByteArray) (hs : ∀ s ∈ l, s.size ≤ 140737488351232) (hl : l.length ≤ 140737488351232) (d : Nat) : ∀ (i k : Nat) (acc : ByteArray), i + d = l.length → d < k → acc.size + tot (l.drop i) + 2 * d ≤ 140737488351232 →
    counterfoilref01_List.l0 k l acc (i : Int) = some (listT (l.drop i) acc) := by
  induction d with
  | zero =>
    intro i k acc hi hk hz
    obtain ⟨k, rfl⟩ : ∃ m, k = m + 1 := ⟨k - 1, by omega⟩
    simp only [counterfoilref01_List.l0]
    rw [if_neg (by omega), List.drop_eq_nil_of_le (by omega), listT]
  | succ d ih =>
    intro i k acc hi hk hz
    obtain ⟨k, rfl⟩ : ∃ m, k = m + 1 := ⟨k - 1, by omega⟩
    simp only [counterfoilref01_List.l0]
    have hm := hs _ (rdOf_mem l i (by omega))
    rw [rdOf_drop l i (by omega)] at hz ⊢
    generalize rdOf ByteArray.empty l (i : Int) = s at hm hz ⊢
    simp only [tot] at hz
    have e4 : wrap64 ((i : Int) + 1) = ((i + 1 : Nat) : Int) := by rw [wrap64_id (by omega) (by omega)]; omega
    rw [if_pos (by omega), if_pos (by omega), rtext_eq s hm, e4]
    simp only [Option.bind_some, listT]
    unfold textS
    by_cases h : 65535 < s.size
    · rw [if_pos h, if_pos h, if_neg (by decide), empty_mk]
    · rw [if_neg h, if_neg h]
      have hz2 : (mk (digs s.size 2) ++ s).size = 2 + s.size := by rw [ByteArray.size_append, mk_size, digs_length]
      dsimp only
      rw [if_pos (rfl : (0 : Int) = 0), if_pos (by rw [hz2]; omega)]
      exact ih (i + 1) k _ (by omega) (by omega) (by rw [ByteArray.size_append, hz2]; omega)
theorem rlist_eq (l : List ByteArray) (hl : l.length ≤ 140737488351232) (hs : ∀ s ∈ l, s.size ≤ 140737488351232) (hz : tot l + 2 * l.length + 2 ≤ 140737488351232) {k : Nat} (hk : l.length < k) : counterfoilref01_List.f k l = some (listS l) := by
  unfold counterfoilref01_List.f listS
  by_cases h : 65535 < l.length
  · rw [if_pos (by omega), if_pos h, empty_mk]
  · rw [if_neg (by omega), if_neg h, two_bytes _ (by omega)]
    have := rlist_l0 l hs hl l.length 0 k (mk (digs l.length 2)) (by omega) hk (by rw [mk_size, digs_length]; simp; omega)
    simpa using this
theorem listT_bad : ∀ (l : List ByteArray) (acc : ByteArray), (listT l acc).2 ≠ 0 → (listT l acc).1 = mk []
  | [], acc, h => absurd rfl h
  | s :: r, acc, h => by
    unfold listT at h ⊢
    split
    · rfl
    · rename_i h1; rw [if_neg h1] at h; exact listT_bad r _ h
theorem listS_bad (l : List ByteArray) (h : (listS l).2 ≠ 0) : (listS l).1 = mk [] := by
  unfold listS at h ⊢
  split
  · rfl
  · rename_i h1; rw [if_neg h1] at h; exact listT_bad l _ h
theorem listT_size : ∀ (l : List ByteArray) (acc : ByteArray), (listT l acc).1.size ≤ acc.size + tot l + 2 * l.length
  | [], acc => by simp [listT, tot]
  | s :: r, acc => by
    have := listT_size r (acc ++ (mk (digs s.size 2) ++ s))
    rw [ByteArray.size_append, ByteArray.size_append, mk_size, digs_length] at this
    simp only [listT, tot, List.length_cons]
    split
    · simp [mk_size]
    · omega
/-- The texts alone. -/
def texts : List ByteArray → ByteArray
  | [] => mk []
  | s :: r => mk (digs s.size 2) ++ s ++ texts r
theorem append_empty (a : ByteArray) : a ++ mk [] = a := by apply ba_ext; simp [mk]
theorem listT_ok : ∀ (l : List ByteArray) (acc : ByteArray), (listT l acc).2 = 0 → (listT l acc).1 = acc ++ texts l ∧ ∀ s ∈ l, s.size ≤ 65535
  | [], acc, _ => ⟨by simp only [listT, texts, append_empty], fun _ h => by cases h⟩
  | s :: r, acc, h => by
    unfold listT at h ⊢
    by_cases h1 : 65535 < s.size
    · rw [if_pos h1] at h; exact absurd h (by decide)
    · rw [if_neg h1] at h ⊢
      obtain ⟨h2, h3⟩ := listT_ok r _ h
      refine ⟨by rw [h2]; simp only [texts, ByteArray.append_assoc], ?_⟩
      intro x hx
      rcases List.mem_cons.1 hx with rfl | hx
      · omega
      · exact h3 x hx
theorem itemsL_texts (l : List ByteArray) : ∀ (acc : List ByteArray) (m : ByteArray), (∀ s ∈ l, s.size ≤ 65535) → itemsL l.length (texts l ++ m) acc = some (acc ++ l, m) := by
  induction l with
  | nil => intro acc m h; simp only [List.length_nil, itemsL, texts, List.append_nil]; congr 2
  | cons s r ih =>
    intro acc m h
    have e : texts (s :: r) ++ m = mk (digs s.size 2) ++ s ++ (texts r ++ m) := by simp only [texts, ByteArray.append_assoc]
    rw [List.length_cons, e]
    simp only [itemsL]
    rw [takeS_text s _ (h s List.mem_cons_self), if_pos rfl, ih _ m (fun x hx => h x (List.mem_cons_of_mem _ hx))]
    simp
theorem itemsS_list (l : List ByteArray) (m : ByteArray) (hl : l.length ≤ 65535) (h : ∀ s ∈ l, s.size ≤ 65535) : itemsS (mk (digs l.length 2) ++ texts l ++ m) = (l, m, 0) := by
  have hz : (mk (digs l.length 2) ++ texts l ++ m).size = 2 + (texts l).size + m.size := by rw [ByteArray.size_append, ByteArray.size_append, mk_size, digs_length]
  have ht : (mk (digs l.length 2) ++ texts l ++ m).data.toList.take 2 = digs l.length 2 := by
    simp only [ByteArray.data_append, Array.toList_append, mk_data, List.append_assoc]
    rw [List.take_append_of_le_length (by rw [digs_length]; omega), List.take_of_length_le (by rw [digs_length]; omega)]
  have hn := num_digs l.length 2 (by omega)
  have e2 : (mk (digs l.length 2) ++ texts l ++ m).extract 2 (2 + (texts l).size + m.size) = texts l ++ m := by
    rw [ByteArray.append_assoc]
    exact ByteArray.extract_append_eq_right (by rw [mk_size, digs_length]) (by rw [mk_size, digs_length, ByteArray.size_append]; omega)
  unfold itemsS
  rw [hz, if_neg (by omega), ht, hn, e2, itemsL_texts l [] m h]
  simp
end Go.Proofs.Ytbnkmdcfillhoaa.Oct
