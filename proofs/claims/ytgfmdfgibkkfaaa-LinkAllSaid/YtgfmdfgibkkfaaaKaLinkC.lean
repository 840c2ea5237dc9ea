import Derived.Test.YtgfmdfgibkkfaaaKaPx4
import Derived.Test.YtgfmdfgibkkfaaaKaLinkB
set_option linter.unusedVariables false
set_option linter.unusedSimpArgs false
namespace Go.Proofs.Ytgfmdfgibkkfaaa.Link
open Go.RowKit Go.Proofs.Ytgfmdfgibkkfaaa.P Go.Proofs.Ytgfmdfgibkkfaaa.Core Go.Proofs.Ytgfmdfgibkkfaaa.Oct Go.Proofs.Ytgfmdfgibkkfaaa.Frame Go.Proofs.YtgfmdfgibkkfaaaW.PrintWords Go.Proofs.YtgfmdfgibkkfaaaW.PrintLast Go.Proofs.YtgfmdfgibkkfaaaW.PrintMore
def w8 (b : ByteArray) (i : Nat) : Int × Int := getS (b.extract (8 * i) (8 * i + 8))
theorem getS_nat (s : ByteArray) : ∃ n : Nat, (getS s).1 = n ∧ n ≤ 9223372036854775807 := by
  unfold getS
  split
  · exact ⟨0, rfl, by omega⟩
  · split
    · exact ⟨0, rfl, by omega⟩
    · exact ⟨_, rfl, by omega⟩
theorem w8_nat (b : ByteArray) (i : Nat) : (w8 b i).1 = ((w8 b i).1.toNat : Int) ∧ (w8 b i).1.toNat ≤ 9223372036854775807 := by
  obtain ⟨n, h1, h2⟩ := getS_nat (b.extract (8 * i) (8 * i + 8))
  unfold w8
  rw [h1]
  omega
theorem ext_ext (b : ByteArray) (i : Nat) (h : 8 * i + 8 ≤ b.size) : (b.extract (8 * i) b.size).extract 0 8 = b.extract (8 * i) (8 * i + 8) := by
  apply ba_ext
  rw [data_extract_list, data_extract_list, data_extract_list]
  have hl : b.data.toList.length = b.size := by simp
  rw [List.take_of_length_le (show b.data.toList.length ≤ b.size by omega), List.drop_zero, List.take_drop]
theorem ext_more (b : ByteArray) (i : Nat) : (b.extract (8 * i) b.size).extract 8 (b.extract (8 * i) b.size).size = b.extract (8 * (i + 1)) b.size := by
  apply ba_ext
  rw [data_extract_list, data_extract_list, data_extract_list]
  have hl : b.data.toList.length = b.size := by simp
  have hm : (b.extract (8 * i) b.size).size = b.size - 8 * i := by simp
  rw [hm, List.take_of_length_le (show b.data.toList.length ≤ b.size by omega), List.take_of_length_le (by simp), List.drop_drop]
  rfl
theorem num_ok (b : ByteArray) (i : Nat) (h : 8 * i + 8 ≤ b.size) (hg : (w8 b i).2 = 0) : numberS (b.extract (8 * i) b.size) 8 = ((w8 b i).1, b.extract (8 * (i + 1)) b.size, 0) := by
  have hm : (b.extract (8 * i) b.size).size = b.size - 8 * i := by simp
  unfold numberS
  rw [if_neg (by omega), if_neg (by omega), show (8 : Int).toNat = 8 from rfl, ext_ext b i h, ext_more]
  unfold w8 at hg ⊢
  rw [if_pos hg]
theorem num_bad (b : ByteArray) (i : Nat) (h : ¬ (8 * i + 8 ≤ b.size ∧ (w8 b i).2 = 0)) : (numberS (b.extract (8 * i) b.size) 8).2.2 ≠ 0 := by
  have hm : (b.extract (8 * i) b.size).size = b.size - 8 * i := by simp
  unfold numberS
  rw [if_neg (by omega)]
  by_cases hs : ((b.extract (8 * i) b.size).size : Int) < 8
  · rw [if_pos hs]; decide
  · rw [if_neg hs, show (8 : Int).toNat = 8 from rfl, ext_ext b i (by omega)]
    have hg : (getS (b.extract (8 * i) (8 * i + 8))).2 ≠ 0 := fun hg => h ⟨by omega, hg⟩
    rw [if_neg hg]
    exact hg
def goodB (b : ByteArray) : Prop := 32 ≤ b.size ∧ (w8 b 0).2 = 0 ∧ (w8 b 1).2 = 0 ∧ (w8 b 2).2 = 0 ∧ (w8 b 3).2 = 0
instance (b : ByteArray) : Decidable (goodB b) := by unfold goodB; exact inferInstance
structure Pk where
  kind : Int
  n0 : Nat
  n1 : Nat
  n2 : Nat
  n3 : Nat
  s : ByteArray
def hearS (p : ByteArray) : Option Pk :=
  if (openS p).2.2 = 0 ∧ ((openS p).1 = 1 ∨ (openS p).1 = 2) ∧ goodB (openS p).2.1 ∧ link_read.ok (openS p).1 (w8 (openS p).2.1 0).1 (w8 (openS p).2.1 2).1 ((openS p).2.1.extract 32 (openS p).2.1.size) = true then
    some ⟨(openS p).1, (w8 (openS p).2.1 0).1.toNat, (w8 (openS p).2.1 1).1.toNat, (w8 (openS p).2.1 2).1.toNat, (w8 (openS p).2.1 3).1.toNat, (openS p).2.1.extract 32 (openS p).2.1.size⟩ else none
theorem ext_zero (b : ByteArray) : b.extract (8 * 0) b.size = b := by simp
theorem read_chain (kind : Int) (b : ByteArray) {k : Nat} (hk : 14 ≤ k) (h : goodB b) : link_read.s0 k kind b = some (kind, (w8 b 0).1, (w8 b 1).1, (w8 b 2).1, (w8 b 3).1, b.extract 32 b.size, link_read.ok kind (w8 b 0).1 (w8 b 2).1 (b.extract 32 b.size)) := by
  obtain ⟨h0, h1, h2, h3, h4⟩ := h
  have e0 := num_ok b 0 (by omega) h1
  have e1 := num_ok b 1 (by omega) h2
  have e2 := num_ok b 2 (by omega) h3
  have e3 := num_ok b 3 (by omega) h4
  rw [ext_zero] at e0
  unfold link_read.s0
  rw [number_eq b 8 hk, e0]
  simp only [Option.bind_some, if_true]
  unfold link_read.s1
  rw [number_eq _ 8 hk, e1]
  simp only [Option.bind_some, if_true]
  unfold link_read.s2
  rw [number_eq _ 8 hk, e2]
  simp only [Option.bind_some, if_true]
  unfold link_read.s3
  rw [number_eq _ 8 hk, e3]
  simp only [Option.bind_some, if_true]
theorem read_no (kind : Int) (b : ByteArray) {k : Nat} (hk : 14 ≤ k) (h : ¬ goodB b) : link_read.s0 k kind b = some link_read.no := by
  have e0 := number_eq b 8 hk
  unfold link_read.s0
  rw [e0]
  simp only [Option.bind_some]
  by_cases c0 : 8 * 0 + 8 ≤ b.size ∧ (w8 b 0).2 = 0
  · have := num_ok b 0 c0.1 c0.2
    rw [ext_zero] at this
    rw [this, if_pos rfl]
    unfold link_read.s1
    rw [number_eq _ 8 hk]
    simp only [Option.bind_some]
    by_cases c1 : 8 * 1 + 8 ≤ b.size ∧ (w8 b 1).2 = 0
    · rw [num_ok b 1 c1.1 c1.2, if_pos rfl]
      unfold link_read.s2
      rw [number_eq _ 8 hk]
      simp only [Option.bind_some]
      by_cases c2 : 8 * 2 + 8 ≤ b.size ∧ (w8 b 2).2 = 0
      · rw [num_ok b 2 c2.1 c2.2, if_pos rfl]
        unfold link_read.s3
        rw [number_eq _ 8 hk]
        simp only [Option.bind_some]
        rw [if_neg (num_bad b 3 (fun c3 => h ⟨by omega, c0.2, c1.2, c2.2, c3.2⟩))]
      · rw [if_neg (num_bad b 2 c2)]
    · rw [if_neg (num_bad b 1 c1)]
  · have := num_bad b 0 c0
    rw [ext_zero] at this
    rw [if_neg this]
theorem read_some (p : ByteArray) (hs : p.size ≤ 140737488351232) {h : Pk} (hh : hearS p = some h) {k : Nat} (hk : 20 ≤ k) : link_read.f k p = some (h.kind, (h.n0 : Int), (h.n1 : Int), (h.n2 : Int), (h.n3 : Int), h.s, true) := by
  unfold hearS at hh
  split at hh
  · rename_i hc
    obtain rfl := Option.some.inj hh
    obtain ⟨h1, h2, h3, h4⟩ := hc
    unfold link_read.f
    rw [open_eq p hs (by omega)]
    simp only [Option.bind_some]
    rw [if_pos h1, if_pos h2, read_chain _ _ (by omega) h3, h4]
    simp only [← (w8_nat _ _).1]
  · cases hh
theorem read_none (p : ByteArray) (hs : p.size ≤ 140737488351232) (hh : hearS p = none) {k : Nat} (hk : 20 ≤ k) : ∃ a b c d e f, link_read.f k p = some (a, b, c, d, e, f, false) := by
  unfold hearS at hh
  split at hh
  · cases hh
  · rename_i hc
    unfold link_read.f
    rw [open_eq p hs (by omega)]
    simp only [Option.bind_some]
    by_cases h1 : (openS p).2.2 = 0
    · rw [if_pos h1]
      by_cases h2 : (openS p).1 = 1 ∨ (openS p).1 = 2
      · rw [if_pos h2]
        by_cases h3 : goodB (openS p).2.1
        · rw [read_chain _ _ (by omega) h3]
          cases h4 : link_read.ok (openS p).1 (w8 (openS p).2.1 0).1 (w8 (openS p).2.1 2).1 ((openS p).2.1.extract 32 (openS p).2.1.size) with
          | true => exact absurd ⟨h1, h2, h3, h4⟩ hc
          | false => exact ⟨_, _, _, _, _, _, rfl⟩
        · rw [read_no _ _ (by omega) h3]; exact ⟨_, _, _, _, _, _, rfl⟩
      · rw [if_neg h2]; exact ⟨_, _, _, _, _, _, rfl⟩
    · rw [if_neg h1]; exact ⟨_, _, _, _, _, _, rfl⟩
theorem hear_spec {p : ByteArray} {h : Pk} (hh : hearS p = some h) : (h.kind = 1 ∨ h.kind = 2) ∧ 1 ≤ h.n0 ∧ h.n0 ≤ 1099511627776 ∧ h.n1 ≤ 9223372036854775807 ∧ h.n2 ≤ 9223372036854775807 ∧ h.n3 ≤ 9223372036854775807 ∧ h.s.size ≤ 512 := by
  unfold hearS at hh
  split at hh
  · rename_i hc
    obtain rfl := Option.some.inj hh
    obtain ⟨h1, h2, h3, h4⟩ := hc
    simp only [link_read.ok, Bool.and_eq_true, decide_eq_true_eq] at h4
    have a0 := (w8_nat (openS p).2.1 0).1
    have a1 := (w8_nat (openS p).2.1 1).2
    have a2 := (w8_nat (openS p).2.1 2).2
    have a3 := (w8_nat (openS p).2.1 3).2
    have b1 := h4.1.1
    have b2 := h4.2
    dsimp only
    generalize (w8 (openS p).2.1 0).1 = x0 at *
    generalize (w8 (openS p).2.1 1).1 = x1 at *
    generalize (w8 (openS p).2.1 2).1 = x2 at *
    generalize (w8 (openS p).2.1 3).1 = x3 at *
    refine ⟨h2, ?_, ?_, a1, a2, a3, b1⟩
    · clear a1 a2 a3; omega
    · clear a1 a2 a3; omega
  · cases hh
structure After where
  o : Nat
  f : Nat
  l : List ByteArray
  w : Nat
  s : ByteArray
  has : Bool
  reply : ByteArray
  anew : Bool
def goneS (f : Nat) (l : List ByteArray) (n : Nat) : Nat × List ByteArray := if f ≤ n ∧ n ≤ f + l.length then (n, l.drop (n - f)) else (f, l)
def heardS (a o f : Nat) (l : List ByteArray) (w : Nat) (anew : Bool) (h : Pk) : After :=
  if h.n1 ≠ a then ⟨o, f, l, w, mk [], false, packetS 2 a o 0 w (mk []), anew⟩ else
    if h.kind = 1 then
      if h.n2 = w ∧ w < 1099511627776 then ⟨o, (goneS f l h.n3).1, (goneS f l h.n3).2, w + 1, h.s, true, packetS 2 a o 0 (w + 1) (mk []), anew⟩
      else ⟨o, (goneS f l h.n3).1, (goneS f l h.n3).2, w, mk [], false, packetS 2 a o 0 w (mk []), anew⟩
    else ⟨o, (goneS f l h.n3).1, (goneS f l h.n3).2, w, mk [], false, mk [], anew⟩
def takeS (a o f : Nat) (l : List ByteArray) (w : Nat) (p : ByteArray) : After :=
  match hearS p with
  | none => ⟨o, f, l, w, mk [], false, mk [], false⟩
  | some h =>
    if h.n0 < o then ⟨o, f, l, w, mk [], false, mk [], false⟩ else
      if o < h.n0 then (if o = 0 then heardS a h.n0 f l 1 false h else heardS a h.n0 1 [] 1 true h)
      else heardS a o f l w false h
end Go.Proofs.Ytgfmdfgibkkfaaa.Link
