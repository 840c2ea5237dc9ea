import Derived.Test.YtecfndblgefhdaaKcOpen
set_option linter.unusedVariables false
set_option linter.unusedSimpArgs false
namespace Go.Proofs.Ytecfndblgefhdaa.Link
open Go.RowKit Go.Proofs.Ytecfndblgefhdaa.P Go.Proofs.Ytecfndblgefhdaa.Core Go.Proofs.Ytecfndblgefhdaa.Oct Go.Proofs.Ytecfndblgefhdaa.Frame Go.Proofs.YtecfndblgefhdaaW.PrintWords Go.Proofs.YtecfndblgefhdaaW.PrintLast Go.Proofs.YtecfndblgefhdaaW.PrintMore
def w8 (b : ByteArray) (i : Nat) : Int × Int := getS (b.extract (8 * i) (8 * i + 8))
theorem getS_nat (s : ByteArray) : ∃ n : Nat, (getS s).1 = n ∧ n ≤ 9223372036854775807 := by
 unfold getS
 split
 ·exact ⟨0, rfl, z2_⟩
 ·split
  ·exact ⟨0, rfl, z2_⟩
  ·exact ⟨_, rfl, z2_⟩
theorem w8_nat (b : ByteArray) (i : Nat) : (w8 b i).1 = ((w8 b i).1.toNat : Int) ∧ (w8 b i).1.toNat ≤ 9223372036854775807 := by
 obtain ⟨n, h1, h2⟩ := getS_nat (b.extract (8 * i) (8 * i + 8))
 unfold w8
 rw [h1]
 omega
theorem ext_ext (b : ByteArray) (i : Nat) (h : 8 * i + 8 ≤ b.size) : (b.extract (8 * i) b.size).extract 0 8 = b.extract (8 * i) (8 * i + 8) := by
 apply ba_ext
 rw [data_extract_list, data_extract_list, data_extract_list]
 have hl : b.data.toList.length = b.size := by simp
 rw [List.take_of_length_le (show b.data.toList.length ≤ b.size from z2_), List.drop_zero, List.take_drop]
theorem ext_more (b : ByteArray) (i : Nat) : (b.extract (8 * i) b.size).extract 8 (b.extract (8 * i) b.size).size = b.extract (8 * (i + 1)) b.size := by
 apply ba_ext
 rw [data_extract_list, data_extract_list, data_extract_list]
 have hl : b.data.toList.length = b.size := by simp
 have hm : (b.extract (8 * i) b.size).size = b.size - 8 * i := by simp
 rw [hm, List.take_of_length_le (show b.data.toList.length ≤ b.size from z2_), List.take_of_length_le (by simp), List.drop_drop]
 rfl
theorem num_ok (b : ByteArray) (i : Nat) (h : 8 * i + 8 ≤ b.size) (hg : (w8 b i).2 = 0) : numberS (b.extract (8 * i) b.size) 8 = ((w8 b i).1, b.extract (8 * (i + 1)) b.size, 0) := by
 have hm : (b.extract (8 * i) b.size).size = b.size - 8 * i := by simp
 unfold numberS
 rw [if_neg z2_, if_neg z2_, show (8 : Int).toNat = 8 from rfl, ext_ext b i h, ext_more]
 unfold w8 at hg ⊢
 rw [if_pos hg]
theorem num_bad (b : ByteArray) (i : Nat) (h : ¬ (8 * i + 8 ≤ b.size ∧ (w8 b i).2 = 0)) : (numberS (b.extract (8 * i) b.size) 8).2.2 ≠ 0 := by
 have hm : (b.extract (8 * i) b.size).size = b.size - 8 * i := by simp
 unfold numberS
 rw [if_neg z2_]
 by_cases hs : ((b.extract (8 * i) b.size).size : Int) < 8
 ·rw [if_pos hs]; decide
 ·rw [if_neg hs, show (8 : Int).toNat = 8 from rfl, ext_ext b i z2_]
  have hg : (getS (b.extract (8 * i) (8 * i + 8))).2 ≠ 0 := fun hg => h ⟨z2_, hg⟩
  rw [if_neg hg]
  exact hg
def goodB (b : ByteArray) : Prop := 32 ≤ b.size ∧ (w8 b 0).2 = 0 ∧ (w8 b 1).2 = 0 ∧ (w8 b 2).2 = 0 ∧ (w8 b 3).2 = 0
instance (b : ByteArray) : Decidable (goodB b) := by unfold goodB; exact inferInstance
structure Pk where
 kind : Int
 n0 : Nat
 n1 : Nat
 n2 : Nat
 n3 : Nat
 s : ByteArray
def hearS (p : ByteArray) : Option Pk :=
 if (openS p).2.2 = 0 ∧ ((openS p).1 = 1 ∨ (openS p).1 = 2) ∧ goodB (openS p).2.1 ∧ link_read.ok (openS p).1 (w8 (openS p).2.1 0).1 (w8 (openS p).2.1 2).1 ((openS p).2.1.extract 32 (openS p).2.1.size) = true then
  some ⟨(openS p).1, (w8 (openS p).2.1 0).1.toNat, (w8 (openS p).2.1 1).1.toNat, (w8 (openS p).2.1 2).1.toNat, (w8 (openS p).2.1 3).1.toNat, (openS p).2.1.extract 32 (openS p).2.1.size⟩ else none
theorem ext_zero (b : ByteArray) : b.extract (8 * 0) b.size = b := by simp
theorem read_chain (kind : Int) (b : ByteArray) {k : Nat} (hk : 14 ≤ k) (h : goodB b) : link_read.s0 k kind b = some (kind, (w8 b 0).1, (w8 b 1).1, (w8 b 2).1, (w8 b 3).1, b.extract 32 b.size, link_read.ok kind (w8 b 0).1 (w8 b 2).1 (b.extract 32 b.size)) := by
 obtain ⟨h0, h1, h2, h3, h4⟩ := h
 have e0 := num_ok b 0 z2_ h1
 have e1 := num_ok b 1 z2_ h2
 have e2 := num_ok b 2 z2_ h3
 have e3 := num_ok b 3 z2_ h4
 rw [ext_zero] at e0
 unfold link_read.s0
 rw [number_eq b 8 hk, e0]
 simp only [Option.bind_some, if_true]
 unfold link_read.s1
 rw [number_eq _ 8 hk, e1]
 simp only [Option.bind_some, if_true]
 unfold link_read.s2
 rw [number_eq _ 8 hk, e2]
 simp only [Option.bind_some, if_true]
 unfold link_read.s3
 rw [number_eq _ 8 hk, e3]
 simp only [Option.bind_some, if_true]
theorem read_no (kind : Int) (b : ByteArray) {k : Nat} (hk : 14 ≤ k) (h : ¬ goodB b) : link_read.s0 k kind b = some link_read.no := by
 have e0 := number_eq b 8 hk
 unfold link_read.s0
 rw [e0]
 simp only [Option.bind_some]
 by_cases c0 : 8 * 0 + 8 ≤ b.size ∧ (w8 b 0).2 = 0
 ·have := num_ok b 0 c0.1 c0.2
  rw [ext_zero] at this
  rw [this, if_pos rfl]
  unfold link_read.s1
  rw [number_eq _ 8 hk]
  simp only [Option.bind_some]
  by_cases c1 : 8 * 1 + 8 ≤ b.size ∧ (w8 b 1).2 = 0
  ·rw [num_ok b 1 c1.1 c1.2, if_pos rfl]
   unfold link_read.s2
   rw [number_eq _ 8 hk]
   simp only [Option.bind_some]
   by_cases c2 : 8 * 2 + 8 ≤ b.size ∧ (w8 b 2).2 = 0
   ·rw [num_ok b 2 c2.1 c2.2, if_pos rfl]
    unfold link_read.s3
    rw [number_eq _ 8 hk]
    simp only [Option.bind_some]
    rw [if_neg (num_bad b 3 (fun c3 => h ⟨z2_, c0.2, c1.2, c2.2, c3.2⟩))]
   ·rw [if_neg (num_bad b 2 c2)]
  ·rw [if_neg (num_bad b 1 c1)]
 ·have := num_bad b 0 c0
  rw [ext_zero] at this
  rw [if_neg this]
theorem read_some (p : ByteArray) (hs : p.size ≤ 140737488351232) {h : Pk} (hh : hearS p = some h) {k : Nat} (hk : 20 ≤ k) : link_read.f k p = some (h.kind, (h.n0 : Int), (h.n1 : Int), (h.n2 : Int), (h.n3 : Int), h.s, true) := by
 unfold hearS at hh
 split at hh
 ·rename_i hc
  obtain rfl := Option.some.inj hh
  obtain ⟨h1, h2, h3, h4⟩ := hc
  unfold link_read.f
  rw [open_eq p hs z2_]
  simp only [Option.bind_some]
  rw [if_pos h1, if_pos h2, read_chain _ _ z2_ h3, h4]
  simp only [← (w8_nat _ _).1]
 ·cases hh
theorem read_none (p : ByteArray) (hs : p.size ≤ 140737488351232) (hh : hearS p = none) {k : Nat} (hk : 20 ≤ k) : ∃ a b c d e f, link_read.f k p = some (a, b, c, d, e, f, false) := by
 unfold hearS at hh
 split at hh
 ·cases hh
 ·rename_i hc
  unfold link_read.f
  rw [open_eq p hs z2_]
  simp only [Option.bind_some]
  by_cases h1 : (openS p).2.2 = 0
  ·rw [if_pos h1]
   by_cases h2 : (openS p).1 = 1 ∨ (openS p).1 = 2
   ·rw [if_pos h2]
    by_cases h3 : goodB (openS p).2.1
    ·rw [read_chain _ _ z2_ h3]
     cases h4 : link_read.ok (openS p).1 (w8 (openS p).2.1 0).1 (w8 (openS p).2.1 2).1 ((openS p).2.1.extract 32 (openS p).2.1.size) with
     | true => exact absurd ⟨h1, h2, h3, h4⟩ hc
     | false => exact ⟨_, _, _, _, _, _, rfl⟩
    ·rw [read_no _ _ z2_ h3]; exact ⟨_, _, _, _, _, _, rfl⟩
   ·rw [if_neg h2]; exact ⟨_, _, _, _, _, _, rfl⟩
  ·rw [if_neg h1]; exact ⟨_, _, _, _, _, _, rfl⟩
theorem hear_spec {p : ByteArray} {h : Pk} (hh : hearS p = some h) : (h.kind = 1 ∨ h.kind = 2) ∧ 1 ≤ h.n0 ∧ h.n0 ≤ 1099511627776 ∧ h.n1 ≤ 9223372036854775807 ∧ h.n2 ≤ 9223372036854775807 ∧ h.n3 ≤ 9223372036854775807 ∧ h.s.size ≤ 512 := by
 unfold hearS at hh
 split at hh
 ·rename_i hc
  obtain rfl := Option.some.inj hh
  obtain ⟨h1, h2, h3, h4⟩ := hc
  simp only [link_read.ok, Bool.and_eq_true, decide_eq_true_eq] at h4
  have a0 := (w8_nat (openS p).2.1 0).1
  have a1 := (w8_nat (openS p).2.1 1).2
  have a2 := (w8_nat (openS p).2.1 2).2
  have a3 := (w8_nat (openS p).2.1 3).2
  have b1 := h4.1.1
  have b2 := h4.2
  dsimp only
  generalize (w8 (openS p).2.1 0).1 = x0 at *
  generalize (w8 (openS p).2.1 1).1 = x1 at *
  generalize (w8 (openS p).2.1 2).1 = x2 at *
  generalize (w8 (openS p).2.1 3).1 = x3 at *
  refine ⟨h2, ?_, ?_, a1, a2, a3, b1⟩
  ·clear a1 a2 a3; omega
  ·clear a1 a2 a3; omega
 ·cases hh
structure After where
 o : Nat
 f : Nat
 l : List ByteArray
 w : Nat
 s : ByteArray
 has : Bool
 reply : ByteArray
 anew : Bool
def goneS (f : Nat) (l : List ByteArray) (n : Nat) : Nat × List ByteArray := if f ≤ n ∧ n ≤ f + l.length then (n, l.drop (n - f)) else (f, l)
def heardS (a o f : Nat) (l : List ByteArray) (w : Nat) (anew : Bool) (h : Pk) : After :=
 if h.n1 ≠ a then ⟨o, f, l, w, mk [], false, packetS 2 a o 0 w (mk []), anew⟩ else
  if h.kind = 1 then
   if h.n2 = w ∧ w < 1099511627776 then ⟨o, (goneS f l h.n3).1, (goneS f l h.n3).2, w + 1, h.s, true, packetS 2 a o 0 (w + 1) (mk []), anew⟩
   else ⟨o, (goneS f l h.n3).1, (goneS f l h.n3).2, w, mk [], false, packetS 2 a o 0 w (mk []), anew⟩
  else ⟨o, (goneS f l h.n3).1, (goneS f l h.n3).2, w, mk [], false, mk [], anew⟩
def takeS (a o f : Nat) (l : List ByteArray) (w : Nat) (p : ByteArray) : After :=
 match hearS p with
 | none => ⟨o, f, l, w, mk [], false, mk [], false⟩
 | some h =>
  if h.n0 < o then ⟨o, f, l, w, mk [], false, mk [], false⟩ else
   if o < h.n0 then (if o = 0 then heardS a h.n0 f l 1 false h else heardS a h.n0 1 [] 1 true h)
   else heardS a o f l w false h
def resS (t : After) : link_Take.Res := ⟨t.o, t.f, t.l, t.w, t.s, t.has, t.reply, t.anew⟩
theorem pack2 (a o f w : Nat) (l : List ByteArray) {k : Nat} (hk : 20 ≤ k) (ha : a < 9223372036854775808) (ho : o < 9223372036854775808) (hw : w < 9223372036854775808) : link_End_packet.f k a o f l w 2 0 (⟨#[]⟩ : ByteArray) = some (packetS 2 a o 0 w (mk [])) := by
 have := packet_eq 2 f l a o 0 w (mk []) ha ho z2_ hw z179_ hk
 rw [show ((0 : Nat) : Int) = 0 from rfl] at this
 exact this
theorem tail_eq (a o f w n2 : Nat) (l : List ByteArray) (anew : Bool) (kind : Int) (s : ByteArray) {k : Nat} (hk : 20 ≤ k) (ha : a ≤ 1099511627776) (ho : o ≤ 1099511627776) (hw : w ≤ 1099511627776) :
  link_Take.tail k a o f l w anew kind n2 s = some (if kind = 1 then (if n2 = w ∧ w < 1099511627776 then ⟨o, f, l, ((w + 1 : Nat) : Int), s, true, packetS 2 a o 0 (w + 1) (mk []), anew⟩ else ⟨o, f, l, w, mk [], false, packetS 2 a o 0 w (mk []), anew⟩) else ⟨o, f, l, w, mk [], false, mk [], anew⟩) := by
 have p0 := pack2 a o f w l hk z2_ z2_ z2_
 have p1 := pack2 a o f (w + 1) l hk z2_ z2_ z2_
 have c1 : w < 1099511627776 → (w : Int) < 1099511627776 := by omega
 have c2 : ¬ w < 1099511627776 → ¬ (w : Int) < 1099511627776 := by omega
 have c3 : n2 ≠ w → ¬ (n2 : Int) = (w : Int) := by omega
 have e1 : wrap64 ((w : Int) + 1) = ((w + 1 : Nat) : Int) := by rw [wrap64_id z2_ z2_]; omega
 unfold link_Take.tail
 by_cases h1 : kind = 1
 ·rw [if_pos h1, if_pos h1]
  by_cases h2 : n2 = w
  ·rw [if_pos (congrArg _ h2)]
   by_cases h3 : w < 1099511627776
   ·rw [if_pos (c1 h3), if_pos ⟨h2, h3⟩, e1, p1]; rfl
   ·rw [if_neg (c2 h3), if_neg (fun h => h3 h.2), p0]; rfl
  ·rw [if_neg (c3 h2), if_neg (fun h => h2 h.1), p0]; rfl
 ·rw [if_neg h1, if_neg h1]; rfl
theorem rest_eq (a o f w : Nat) (l : List ByteArray) (anew : Bool) (h : Pk) {k : Nat} (hk : 20 ≤ k) (ha : a ≤ 1099511627776) (ho : o ≤ 1099511627776) (hf : f ≤ 1099511627776) (hw : w ≤ 1099511627776) (hl : l.length ≤ 1000) (h3 : h.n3 ≤ 9223372036854775807) :
  link_Take.rest k a o f l w anew h.kind h.n1 h.n2 h.n3 h.s = some (resS (heardS a o f l w anew h)) := by
 have p0 := pack2 a o f w l hk z2_ z2_ z2_
 have t0 := tail_eq a o f w h.n2 l anew h.kind h.s hk ha ho hw
 have t1 := tail_eq a o h.n3 w h.n2 (l.drop (h.n3 - f)) anew h.kind h.s hk ha ho hw
 have c1 : h.n1 ≠ a → ¬ (h.n1 : Int) = (a : Int) := by omega
 have c2 : (f : Int) ≤ (h.n3 : Int) ↔ f ≤ h.n3 := by omega
 have c3 : (h.n3 : Int) ≤ ((f + l.length : Nat) : Int) ↔ h.n3 ≤ f + l.length := by omega
 have c4 : f ≤ h.n3 → h.n3 ≤ f + l.length → (0 : Int) ≤ ((h.n3 - f : Nat) : Int) ∧ ((h.n3 - f : Nat) : Int) ≤ (l.length : Int) := by omega
 have e1 : wrap64 ((f : Int) + (l.length : Int)) = ((f + l.length : Nat) : Int) := by rw [wrap64_id z2_ z2_]; omega
 have e2 : f ≤ h.n3 → wrap64 ((h.n3 : Int) - (f : Int)) = ((h.n3 - f : Nat) : Int) := by intro hle; clear e1; rw [wrap64_id z2_ z2_]; omega
 unfold link_Take.rest heardS
 by_cases q1 : h.n1 = a
 ·rw [if_pos (congrArg _ q1), if_neg (not_not_intro q1), e1]
  by_cases q2 : f ≤ h.n3 ∧ h.n3 ≤ f + l.length
  ·rw [if_pos (by rw [decide_eq_true (c2.2 q2.1), decide_eq_true (c3.2 q2.2)]; rfl), e2 q2.1, if_pos (c4 q2.1 q2.2), Int.toNat_natCast, t1]
   unfold goneS
   rw [if_pos q2]
   by_cases k1 : h.kind = 1
   ·rw [if_pos k1, if_pos k1]
    by_cases k2 : h.n2 = w ∧ w < 1099511627776
    ·rw [if_pos k2, if_pos k2]; rfl
    ·rw [if_neg k2, if_neg k2]; rfl
   ·rw [if_neg k1, if_neg k1]; rfl
  ·have hd : (decide ((f : Int) ≤ (h.n3 : Int)) && decide ((h.n3 : Int) ≤ ((f + l.length : Nat) : Int))) = false := by
    rw [Bool.and_eq_false_iff, decide_eq_false_iff_not, decide_eq_false_iff_not, c2, c3]
    by_cases q3 : f ≤ h.n3
    ·exact .inr (fun q4 => q2 ⟨q3, q4⟩)
    ·exact .inl q3
   rw [hd, if_neg z17_, t0]
   unfold goneS
   rw [if_neg q2]
   by_cases k1 : h.kind = 1
   ·rw [if_pos k1, if_pos k1]
    by_cases k2 : h.n2 = w ∧ w < 1099511627776
    ·rw [if_pos k2, if_pos k2]; rfl
    ·rw [if_neg k2, if_neg k2]; rfl
   ·rw [if_neg k1, if_neg k1]; rfl
 ·rw [if_neg (c1 q1), if_pos q1, p0]; rfl
theorem take_good (a o f w : Nat) (l : List ByteArray) (p : ByteArray) (hs : p.size ≤ 140737488351232) {k : Nat} (hk : 20 ≤ k) (h : rightS a o f l w = true) : link_Take.f k a o f l w p = some (resS (takeS a o f l w p)) := by
 have hd := of_decide_eq_true h
 obtain ⟨⟨h1, h2⟩, ⟨h3, h4⟩, ⟨h5, h6⟩, ⟨h7, h8⟩, h9, h10⟩ := hd
 unfold link_Take.f takeS
 cases hh : hearS p with
 | none =>
  obtain ⟨x0, x1, x2, x3, x4, x5, hr⟩ := read_none p hs hh hk
  rw [hr]; rfl
 | some q =>
  obtain ⟨g1, g2, g3, g4, g5, g6, g7⟩ := hear_spec hh
  rw [read_some p hs hh hk, right_eq, h]
  simp only [Option.bind_some, if_true]
  have c1 : q.n0 < o → (q.n0 : Int) < (o : Int) := by omega
  have c2 : ¬ q.n0 < o → ¬ (q.n0 : Int) < (o : Int) := by omega
  have c3 : o < q.n0 → (o : Int) < (q.n0 : Int) := by omega
  have c4 : ¬ o < q.n0 → ¬ (o : Int) < (q.n0 : Int) := by omega
  have c5 : o ≠ 0 → ¬ (o : Int) = 0 := by omega
  by_cases q1 : q.n0 < o
  ·rw [if_pos (c1 q1), if_pos q1]; rfl
  ·rw [if_neg (c2 q1), if_neg q1, clone_eq l z2_]
   simp only [Option.bind_some]
   by_cases q2 : o < q.n0
   ·rw [if_pos (c3 q2), if_pos q2]
    by_cases q3 : o = 0
    ·rw [if_pos (show (o : Int) = 0 from z2_), if_pos q3]
     exact rest_eq a q.n0 f 1 l false q hk z2_ g3 z2_ z2_ z2_ g6
    ·rw [if_neg (c5 q3), if_neg q3]
     exact rest_eq a q.n0 1 1 [] true q hk z2_ g3 z2_ z2_ (by simp) g6
   ·rw [if_neg (c4 q2), if_neg q2]
    exact rest_eq a o f w l false q hk z2_ z2_ z2_ z2_ z2_ g6
open Go.RowKit Go.Proofs.Ytecfndblgefhdaa.P Go.Proofs.Ytecfndblgefhdaa.Core Go.Proofs.Ytecfndblgefhdaa.Crc Go.Proofs.Ytecfndblgefhdaa.Conv Go.Proofs.Ytecfndblgefhdaa.Sum Go.Proofs.Ytecfndblgefhdaa.Oct Go.Proofs.Ytecfndblgefhdaa.Frame Go.Proofs.YtecfndblgefhdaaW.PrintWords Go.Proofs.YtecfndblgefhdaaW.PrintLast Go.Proofs.YtecfndblgefhdaaW.PrintMore
theorem cut_mid (A B C : List UInt8) (i : Nat) (hA : A.length = 8 * i) (hB : B.length = 8) (b : ByteArray) (hb : b.data.toList = A ++ (B ++ C)) : b.extract (8 * i) (8 * i + 8) = mk B := by
 apply ba_ext
 rw [data_extract_list, hb, mk_data, List.drop_take, List.drop_left' hA, show 8 * i + 8 - 8 * i = 8 from z2_, List.take_left' hB]
theorem body_list (a o n w : Nat) (s : ByteArray) : (bodyS a o n w s).data.toList = digs a 8 ++ (digs o 8 ++ (digs n 8 ++ (digs w 8 ++ s.data.toList))) := by
 unfold bodyS
 simp [mk]
theorem w8_digs {x : Nat} {b : ByteArray} {i : Nat} (hx : x ≤ 9223372036854775807) (h : b.extract (8 * i) (8 * i + 8) = mk (digs x 8)) : w8 b i = ((x : Int), 0) := by
 unfold w8
 rw [h]
 exact getS_digs z2_ z2_ z2_ hx
theorem body_w (a o n w : Nat) (s : ByteArray) (ha : a ≤ 9223372036854775807) (ho : o ≤ 9223372036854775807) (hn : n ≤ 9223372036854775807) (hw : w ≤ 9223372036854775807) :
  w8 (bodyS a o n w s) 0 = ((a : Int), 0) ∧ w8 (bodyS a o n w s) 1 = ((o : Int), 0) ∧ w8 (bodyS a o n w s) 2 = ((n : Int), 0) ∧ w8 (bodyS a o n w s) 3 = ((w : Int), 0) ∧ (bodyS a o n w s).extract 32 (bodyS a o n w s).size = s := by
 have hb := body_list a o n w s
 have hz := bodyS_size a o n w s
 refine ⟨w8_digs ha (cut_mid [] (digs a 8) _ 0 rfl (digs_length _ _) _ hb), w8_digs ho (cut_mid (digs a 8) (digs o 8) _ 1 (digs_length _ _) (digs_length _ _) _ hb), w8_digs hn (cut_mid (digs a 8 ++ digs o 8) (digs n 8) (digs w 8 ++ s.data.toList) 2 z177_ (digs_length _ _) _ (by rw [hb]; simp)), w8_digs hw (cut_mid (digs a 8 ++ digs o 8 ++ digs n 8) (digs w 8) s.data.toList 3 z177_ (digs_length _ _) _ (by rw [hb]; simp)), ?_⟩
 apply ba_ext
 rw [data_extract_list, List.take_of_length_le (by have h9 : (bodyS a o n w s).data.toList.length = (bodyS a o n w s).size := (by simp); omega), hb]
 have : digs a 8 ++ (digs o 8 ++ (digs n 8 ++ (digs w 8 ++ s.data.toList))) = (digs a 8 ++ digs o 8 ++ digs n 8 ++ digs w 8) ++ s.data.toList := by simp
 rw [this, List.drop_left' z177_]
theorem packetS_list (kind : Int) (hk : kind = 1 ∨ kind = 2) (a o n w : Nat) (t : ByteArray) (ht : t.size ≤ 512) : packetS kind a o n w t = mk (sealL (UInt8.ofNat kind.toNat) (bodyS a o n w t).data.toList) := by
 have hz := bodyS_size a o n w t
 unfold packetS sealS
 rw [if_neg z2_, if_neg z2_]
theorem packetS_size2 (kind : Int) (hk : kind = 1 ∨ kind = 2) (a o n w : Nat) (t : ByteArray) (ht : t.size ≤ 512) : (packetS kind a o n w t).size = 39 + t.size := by
 have hz := bodyS_size a o n w t
 have h2 : (bodyS a o n w t).data.toList.length = (bodyS a o n w t).size := by simp
 rw [packetS_list kind hk a o n w t ht, mk_size, sealL_length]
 omega
theorem packetS_opens (kind : Int) (hk : kind = 1 ∨ kind = 2) (a o n w : Nat) (t : ByteArray) (ht : t.size ≤ 512) : openS (packetS kind a o n w t) = (kind, bodyS a o n w t, 0) := by
 have hz := bodyS_size a o n w t
 have h2 : (bodyS a o n w t).data.toList.length = (bodyS a o n w t).size := by simp
 rw [packetS_list kind hk a o n w t ht, open_seal _ _ z2_, data_mk]
 rcases hk with rfl | rfl <;> rfl
theorem hear_packet (kind : Int) (hk : kind = 1 ∨ kind = 2) (a o n w : Nat) (t : ByteArray) (ht : t.size ≤ 512) (ha : 1 ≤ a) (ha2 : a ≤ 1099511627776) (ho : o ≤ 9223372036854775807) (hn : n ≤ 9223372036854775807) (hw : w ≤ 9223372036854775807)
  (h2 : kind = 2 → n = 0 ∧ t = mk []) : hearS (packetS kind a o n w t) = some ⟨kind, a, o, n, w, t⟩ := by
 obtain ⟨w0, w1, w2, w3, hx⟩ := body_w a o n w t z2_ ho hn hw
 have hop := packetS_opens kind hk a o n w t ht
 have hg : goodB (bodyS a o n w t) := ⟨by rw [bodyS_size]; omega, by rw [w0], by rw [w1], by rw [w2], by rw [w3]⟩
 have hok : link_read.ok kind (a : Int) (n : Int) t = true := by
  unfold link_read.ok
  have e1 : decide (t.size ≤ 512) = true := decide_eq_true ht
  have e2 : decide (1 ≤ (a : Int) ∧ (a : Int) ≤ 1099511627776) = true := decide_eq_true z2_
  rw [e1, e2]
  rcases hk with rfl | rfl
  ·rfl
  ·obtain ⟨rfl, rfl⟩ := h2 rfl
   rfl
 unfold hearS
 rw [hop]
 dsimp only
 rw [w0, w1, w2, w3, hx]
 dsimp only
 rw [if_pos ⟨rfl, hk, hg, hok⟩]
 rfl
structure En where
 o : Nat
 f : Nat
 l : List ByteArray
 w : Nat
def En.s24 (e : En) (a : Nat) : S26 := ⟨(a : Int), (e.o : Int), (e.f : Int), e.l, (e.w : Int)⟩
structure Dir (es : Nat) (s r : En) (ps cs : List ByteArray) : Prop where
 o : r.o = 0 ∨ r.o = es
 ow : r.o = 0 → r.w = 1
 f1 : 1 ≤ s.f
 fw : s.f ≤ r.w
 wl : r.w ≤ ps.length + 1
 out : s.l = ps.drop (s.f - 1)
 came : cs = ps.take (r.w - 1)
 few : s.l.length ≤ 64
 short : ∀ t ∈ ps, t.size ≤ 512
def GoodQ (es er ws : Nat) (ps : List ByteArray) (q : ByteArray) : Prop := ∃ (kind : Int) (o n w : Nat) (t : ByteArray), q = packetS kind es o n w t ∧ (kind = 1 ∨ kind = 2) ∧ (o = 0 ∨ o = er) ∧ 1 ≤ w ∧ w ≤ ws ∧ t.size ≤ 512 ∧ ((kind = 1 ∧ 1 ≤ n ∧ n ≤ ps.length ∧ ps[n - 1]? = some t) ∨ (kind = 2 ∧ n = 0 ∧ t = mk []))
theorem GoodQ.mono {es er ws ws' : Nat} {ps x : List ByteArray} {q : ByteArray} (h : GoodQ es er ws ps q) (hw : ws ≤ ws') : GoodQ es er ws' (ps ++ x) q := by
 obtain ⟨kind, o, n, w, t, h1, h2, h3, h4, h5, h6, h7⟩ := h
 refine ⟨kind, o, n, w, t, h1, h2, h3, h4, z2_, h6, ?_⟩
 rcases h7 with ⟨a1, a2, a3, a4⟩ | h7
 ·refine .inl ⟨a1, a2, by rw [List.length_append]; omega, ?_⟩
  rw [List.getElem?_append_left z2_]
  exact a4
 ·exact .inr h7
theorem GoodQ.le {es er ws ws' : Nat} {ps : List ByteArray} {q : ByteArray} (h : GoodQ es er ws ps q) (hw : ws ≤ ws') : GoodQ es er ws' ps q := by
 have := h.mono (x := []) hw
 rwa [List.append_nil] at this
theorem GoodQ.size {es er ws : Nat} {ps : List ByteArray} {q : ByteArray} (h : GoodQ es er ws ps q) : 0 < q.size ∧ q.size ≤ 1000 := by
 obtain ⟨kind, o, n, w, t, rfl, h2, h3, h4, h5, h6, h7⟩ := h
 rw [packetS_size2 kind h2 es o n w t h6]
 omega
theorem GoodQ.hears {es er ws : Nat} {ps : List ByteArray} {p : ByteArray} (h : GoodQ es er ws ps p) (he : 1 ≤ es) (he2 : es ≤ 1000) (hr : er ≤ 1000) (hw : ws ≤ 3000) (hp : ps.length ≤ 3000) :
  ∃ (kind : Int) (o n w : Nat) (t : ByteArray), hearS p = some ⟨kind, es, o, n, w, t⟩ ∧ (o = 0 ∨ o = er) ∧ 1 ≤ w ∧ w ≤ ws ∧ ((kind = 1 ∧ 1 ≤ n ∧ n ≤ ps.length ∧ ps[n - 1]? = some t) ∨ (kind = 2 ∧ n = 0 ∧ t = mk [])) := by
 obtain ⟨kind, o, n, w, t, h1, h2, h3, h4, h5, h6, h7⟩ := h
 refine ⟨kind, o, n, w, t, ?_, h3, h4, h5, h7⟩
 rw [h1]
 refine hear_packet kind h2 es o n w t h6 he z2_ z2_ z2_ z2_ (fun e => ?_)
 rcases h7 with h7 | h7
 ·exact absurd (h7.1.symm.trans e) z17_
 ·exact h7.2
theorem Dir.right {es er : Nat} {s r : En} {ps qs cs ds : List ByteArray} (h : Dir es s r ps cs) (h2 : Dir er r s qs ds) (hs : 1 ≤ es) (hs2 : es ≤ 1000) (hr : er ≤ 1000) (hp : ps.length ≤ 3000) (hq : qs.length ≤ 3000) : rightS (es : Int) (s.o : Int) (s.f : Int) s.l (s.w : Int) = true := by
 unfold rightS
 have a1 := h.f1
 have a2 := h.fw
 have a3 := h.wl
 have a4 := h2.wl
 have a5 := h2.o
 have a6 := h2.f1
 have a7 := h2.fw
 refine decide_eq_true ⟨z2_, z2_, z2_, z2_, h.few, fun t ht => h.short t ?_⟩
 rw [h.out] at ht
 exact List.mem_of_mem_drop ht
def En.after (r : En) (er : Nat) (p : ByteArray) : En := ⟨(takeS er r.o r.f r.l r.w p).o, (takeS er r.o r.f r.l r.w p).f, (takeS er r.o r.f r.l r.w p).l, (takeS er r.o r.f r.l r.w p).w⟩
theorem dir_gone {er : Nat} {r s : En} {qs ds : List ByteArray} (h : Dir er r s qs ds) (n : Nat) (hn : n ≤ s.w) (o w : Nat) : Dir er ⟨o, (goneS r.f r.l n).1, (goneS r.f r.l n).2, w⟩ s qs ds := by
 have a1 := h.f1
 have a2 := h.fw
 have a3 := h.wl
 unfold goneS
 by_cases c : r.f ≤ n ∧ n ≤ r.f + r.l.length
 ·rw [if_pos c]
  refine ⟨h.o, h.ow, by show 1 ≤ n; omega, hn, h.wl, ?_, h.came, ?_, h.short⟩
  ·show r.l.drop (n - r.f) = qs.drop (n - 1)
   rw [h.out, List.drop_drop]
   congr 1
   omega
  ·show (r.l.drop (n - r.f)).length ≤ 64
   have := h.few
   rw [List.length_drop]
   omega
 ·rw [if_neg c]
  exact ⟨h.o, h.ow, h.f1, h.fw, h.wl, h.out, h.came, h.few, h.short⟩
theorem take_heard {es er : Nat} {s r : En} {ps cs : List ByteArray} (h : Dir es s r ps cs) {p : ByteArray} {k : Pk} (hk : hearS p = some k) (he : k.n0 = es) (h1 : 1 ≤ es) : takeS er r.o r.f r.l r.w p = heardS er es r.f r.l r.w false k := by
 unfold takeS
 rw [hk]
 dsimp only
 rcases h.o with c | c
 ·rw [if_neg z2_, if_pos z2_, if_pos c, he, h.ow c]
 ·rw [if_neg z2_, if_neg z2_, c]
theorem pack_good {es er ws : Nat} {ps : List ByteArray} {o w : Nat} (ho : o = 0 ∨ o = er) (hw : 1 ≤ w) (hw2 : w ≤ ws) : GoodQ es er ws ps (packetS 2 es o 0 w (mk [])) :=
 ⟨2, o, 0, w, mk [], rfl, .inr rfl, ho, hw, hw2, z179_, .inr ⟨rfl, rfl, rfl⟩⟩
theorem dir_take {es er : Nat} {s r : En} {ps qs cs ds : List ByteArray} {p : ByteArray} (h : Dir es s r ps cs) (h2 : Dir er r s qs ds) (hg : GoodQ es er s.w ps p) (hs : 1 ≤ es) (hs2 : es ≤ 1000) (hr : er ≤ 1000) (hp : ps.length ≤ 2000) (hq : qs.length ≤ 2000) :
  Dir es s (r.after er p) ps (if (takeS er r.o r.f r.l r.w p).has = true then cs ++ [(takeS er r.o r.f r.l r.w p).s] else cs) ∧ Dir er (r.after er p) s qs ds ∧ r.w ≤ (r.after er p).w ∧
   ((takeS er r.o r.f r.l r.w p).reply = mk [] ∨ GoodQ er es (r.after er p).w qs (takeS er r.o r.f r.l r.w p).reply) := by
 have a1 := h.f1
 have a2 := h.fw
 have a3 := h.wl
 have b1 := h2.f1
 have b2 := h2.fw
 have b3 := h2.wl
 obtain ⟨kind, o, n, w, t, hk, h3, h4, h5, h7⟩ := hg.hears hs hs2 hr z2_ z2_
 have e := take_heard (er := er) h hk rfl hs
 unfold En.after
 rw [e]
 unfold heardS
 dsimp only
 by_cases c1 : o ≠ er
 ·rw [if_pos c1]
  exact ⟨⟨.inr rfl, fun c => absurd c z180_, a1, a2, a3, h.out, h.came, h.few, h.short⟩, ⟨h2.o, h2.ow, h2.f1, h2.fw, h2.wl, h2.out, h2.came, h2.few, h2.short⟩, Nat.le_refl _, .inr (pack_good (.inr rfl) z2_ (Nat.le_refl _))⟩
 ·rw [if_neg c1]
  rcases h7 with ⟨rfl, n1, n2, n3⟩ | ⟨rfl, _, _⟩
  ·rw [if_pos rfl]
   by_cases c2 : n = r.w ∧ r.w < 1099511627776
   ·rw [if_pos c2]
    obtain ⟨rfl, _⟩ := c2
    refine ⟨⟨.inr rfl, fun c => absurd c z180_, a1, by show s.f ≤ r.w + 1; omega, by show r.w + 1 ≤ ps.length + 1; omega, h.out, ?_, h.few, h.short⟩, dir_gone h2 w h5 es (r.w + 1), by show r.w ≤ r.w + 1; omega, .inr (pack_good (.inr rfl) z2_ (Nat.le_refl _))⟩
    show cs ++ [t] = ps.take (r.w + 1 - 1)
    rw [h.came]
    have hlt : r.w - 1 < ps.length := by omega
    rw [List.getElem?_eq_getElem hlt] at n3
    have := List.take_append_getElem hlt
    rw [Option.some.inj n3] at this
    rw [this]
    congr 1
    omega
   ·rw [if_neg c2]
    exact ⟨⟨.inr rfl, fun c => absurd c z180_, a1, a2, a3, h.out, h.came, h.few, h.short⟩, dir_gone h2 w h5 es r.w, Nat.le_refl _, .inr (pack_good (.inr rfl) z2_ (Nat.le_refl _))⟩
  ·rw [if_neg z17_]
   exact ⟨⟨.inr rfl, fun c => absurd c z180_, a1, a2, a3, h.out, h.came, h.few, h.short⟩, dir_gone h2 w h5 es r.w, Nat.le_refl _, .inl rfl⟩
theorem dir_put {es : Nat} {s r : En} {ps cs : List ByteArray} (h : Dir es s r ps cs) (x : ByteArray) (hx : x.size ≤ 512) (hl : s.l.length ≠ 64) : Dir es ⟨s.o, s.f, s.l ++ [x], s.w⟩ r (ps ++ [x]) cs := by
 have a1 := h.f1
 have a2 := h.fw
 have a3 := h.wl
 have a4 := h.few
 refine ⟨h.o, h.ow, h.f1, h.fw, by rw [List.length_append]; omega, ?_, ?_, ?_, fun t ht => ?_⟩
 ·show s.l ++ [x] = (ps ++ [x]).drop (s.f - 1)
  rw [h.out, List.drop_append_of_le_length z2_]
 ·rw [h.came, List.take_append_of_le_length z2_]
 ·show (s.l ++ [x]).length ≤ 64
  rw [List.length_append]
  simp only [List.length_singleton]
  omega
 ·rcases List.mem_append.1 ht with ht | ht
  ·exact h.short t ht
  ·rw [List.mem_singleton.1 ht]; exact hx
theorem good_piece {es er : Nat} {s r : En} {ps cs : List ByteArray} (h : Dir es s r ps cs) (i : Nat) (hi : i < s.l.length) (o ws : Nat) (ho : o = 0 ∨ o = er) (hw : 1 ≤ ws) : GoodQ es er ws ps (packetS 1 es o (s.f + i) ws (rdOf ByteArray.empty s.l (i : Int))) := by
 have a1 := h.f1
 have hl : s.l.length = ps.length - (s.f - 1) := by rw [h.out, List.length_drop]
 have hr : rdOf ByteArray.empty s.l (i : Int) = s.l[i] := by simp [rdOf, hi]
 have hsub : ∀ t ∈ s.l, t ∈ ps := fun t ht => by rw [h.out] at ht; exact List.mem_of_mem_drop ht
 have hm : s.l[i] ∈ ps := hsub _ (List.getElem_mem hi)
 refine ⟨1, o, s.f + i, ws, _, rfl, .inl rfl, ho, hw, Nat.le_refl _, by rw [hr]; exact h.short _ hm, .inl ⟨rfl, z2_, z2_, ?_⟩⟩
 rw [hr]
 have e : s.l[i]? = some s.l[i] := List.getElem?_eq_getElem hi
 rw [← e, h.out, List.getElem?_drop]
 congr 1
 omega
structure Rc where
 d : Bool
 one : Bool
 o : Nat
 n : Nat
 w : Nat
 t : ByteArray
def Rc.text (q : Rc) (es : Nat) : ByteArray := packetS (if q.one = true then 1 else 2) es q.o q.n q.w q.t
def Rc.pk (q : Rc) : S93 := ⟨if q.d = true then 1 else 0, q.text 1⟩
structure Val (er ws : Nat) (ps : List ByteArray) (q : Rc) : Prop where
 w1 : 1 ≤ q.w
 w2 : q.w ≤ ws
 t : q.t.size ≤ 512
 yes : q.one = true → 1 ≤ q.n ∧ q.n ≤ ps.length ∧ ps[q.n - 1]? = some q.t ∧ (q.o = 0 ∨ q.o = er)
 no : q.one = false → q.n = 0 ∧ q.t = mk [] ∧ q.o = er
theorem Val.le {er ws ws' : Nat} {ps : List ByteArray} {q : Rc} (h : Val er ws ps q) (hw : ws ≤ ws') : Val er ws' ps q := ⟨h.w1, Nat.le_trans h.w2 hw, h.t, h.yes, h.no⟩
theorem Val.good {es er ws : Nat} {ps : List ByteArray} {q : Rc} (h : Val er ws ps q) : GoodQ es er ws ps (q.text es) := by
 unfold Rc.text
 cases ho : q.one with
 | true =>
  obtain ⟨a1, a2, a3, a4⟩ := h.yes ho
  exact ⟨1, q.o, q.n, q.w, q.t, by rw [if_pos rfl], .inl rfl, a4, h.w1, h.w2, h.t, .inl ⟨rfl, a1, a2, a3⟩⟩
 | false =>
  obtain ⟨a1, a2, a3⟩ := h.no ho
  exact ⟨2, q.o, q.n, q.w, q.t, by rw [if_neg z17_], .inr rfl, .inr a3, h.w1, h.w2, h.t, .inr ⟨rfl, a1, a2⟩⟩
theorem text_hears {es er ws : Nat} {ps : List ByteArray} {q : Rc} (h : Val er ws ps q) (he : 1 ≤ es) (he2 : es ≤ 1000) (hr : er ≤ 1000) (hw : ws ≤ 3000) (hp : ps.length ≤ 3000) : hearS (q.text es) = some ⟨if q.one = true then 1 else 2, es, q.o, q.n, q.w, q.t⟩ := by
 have h2 := h.w2
 unfold Rc.text
 cases ho : q.one with
 | true =>
  obtain ⟨a1, a2, a3, a4⟩ := h.yes ho
  rw [if_pos rfl]
  exact hear_packet 1 (.inl rfl) es q.o q.n q.w q.t h.t he z2_ z2_ z2_ z2_ (fun e => z148_)
 | false =>
  obtain ⟨a1, a2, a3⟩ := h.no ho
  rw [if_neg z17_]
  exact hear_packet 2 (.inr rfl) es q.o q.n q.w q.t h.t he z2_ z2_ z2_ z2_ (fun _ => ⟨a1, a2⟩)
def recv (a b : Nat) (e : En) (q : Rc) : En :=
 if q.o ≠ a then ⟨b, e.f, e.l, e.w⟩ else ⟨b, (goneS e.f e.l q.w).1, (goneS e.f e.l q.w).2, if q.one = true ∧ q.n = e.w then e.w + 1 else e.w⟩
def reply (a b : Nat) (e : En) (q : Rc) : List Rc := if q.one = true then [⟨!q.d, false, b, 0, (recv a b e q).w, mk []⟩] else []
theorem take_rc {es er : Nat} {s r : En} {ps cs : List ByteArray} (h : Dir es s r ps cs) {q : Rc} (hv : Val er s.w ps q) (hs : 1 ≤ es) (hs2 : es ≤ 1000) (hr : er ≤ 1000) (hw : s.w ≤ 2500) (hp : ps.length ≤ 2000) :
  r.after er (q.text es) = recv er es r q ∧ (takeS er r.o r.f r.l r.w (q.text es)).reply = (if q.one = true then packetS 2 er es 0 (recv er es r q).w (mk []) else mk []) := by
 have h3 := h.wl
 have hk := text_hears hv hs hs2 hr z2_ z2_
 have e := take_heard (er := er) h hk rfl hs
 unfold En.after
 rw [e]
 unfold heardS recv
 dsimp only
 cases ho : q.one with
 | true =>
  by_cases c1 : q.o ≠ er
  ·rw [if_pos c1, if_pos c1]; exact ⟨rfl, rfl⟩
  ·rw [if_neg c1, if_neg c1]
   simp only [if_true, true_and]
   by_cases c2 : q.n = r.w
   ·rw [if_pos ⟨c2, z2_⟩, if_pos c2]; exact ⟨rfl, rfl⟩
   ·rw [if_neg (fun x => c2 x.1), if_neg c2]; exact ⟨rfl, rfl⟩
 | false =>
  obtain ⟨_, _, a3⟩ := hv.no ho
  rw [if_neg (not_not_intro a3), if_neg (not_not_intro a3), if_neg z17_, if_neg (by simp), if_neg z17_]
  exact ⟨rfl, rfl⟩
theorem recv_w (a b : Nat) (e : En) (q : Rc) : e.w ≤ (recv a b e q).w := by
 unfold recv
 split
 ·exact Nat.le_refl _
 ·dsimp only; split <;> omega
theorem recv_f (a b : Nat) (e : En) (q : Rc) : e.f ≤ (recv a b e q).f := by
 unfold recv goneS
 split
 ·exact Nat.le_refl _
 ·dsimp only
  split
  ·rename_i c; exact c.1
  ·exact Nat.le_refl _
theorem recv_o (a b : Nat) (e : En) (q : Rc) : (recv a b e q).o = b := by
 unfold recv
 split <;> rfl
theorem recv_no (a b : Nat) (e : En) (q : Rc) (h : q.one = false) : (recv a b e q).w = e.w := by
 unfold recv
 split
 ·rfl
 ·dsimp only; rw [h, if_neg (by simp)]
def wt (qs : List Rc) : Nat := (qs.map fun q => if q.one = true then 2 else 1).sum
theorem wt_append (a b : List Rc) : wt (a ++ b) = wt a + wt b := by simp [wt]
theorem wt_reply (a b : Nat) (e : En) (q : Rc) : wt (reply a b e q) + 1 = (if q.one = true then 2 else 1) := by
 unfold reply wt
 cases q.one <;> rfl
structure Pr (d : Bool) (er F c : Nat) (kn : Prop) (s r : En) (qs : List Rc) : Prop where
 f : F ≤ s.f
 known : kn → s.o = er ∧ ∃ j, j ≤ c ∧ (qs.filter fun q => q.d == d && q.one).map (fun q => q.n) = List.range' (F + j) (c - j) ∧ F + j ≤ r.w ∧ (∀ q ∈ qs, q.d = d → q.one = true → q.o = er) ∧ (j = c → F + c ≤ s.f ∨ ∃ q ∈ qs, q.d = (!d) ∧ q.one = false ∧ F + c ≤ q.w)
 learns : s.o = er ∨ c = 0 ∨ (∃ q ∈ qs, q.d = d ∧ q.one = true) ∨ (∃ q ∈ qs, q.d = (!d))
theorem reply_none (d : Bool) (a b : Nat) (e : En) (q : Rc) : (reply a b e q).filter (fun q => q.d == d && q.one) = [] := by
 unfold reply
 split
 ·rw [List.filter_cons_of_neg (by simp), List.filter_nil]
 ·rfl
theorem reply_mem {a b : Nat} {e : En} {q x : Rc} (h : x ∈ reply a b e q) : q.one = true ∧ x = ⟨!q.d, false, b, 0, (recv a b e q).w, mk []⟩ := by
 unfold reply at h
 split at h
 ·rename_i c; exact ⟨c, List.mem_singleton.1 h⟩
 ·cases h
theorem Pr.toR {d : Bool} {er es F c : Nat} {kn : Prop} {s r : En} {q : Rc} {qs : List Rc} (h : Pr d er F c kn s r (q :: qs)) (hd : q.d = d) : Pr d er F c kn s (recv er es r q) (qs ++ reply er es r q) := by
 refine ⟨h.f, fun hk => ?_, ?_⟩
 ·obtain ⟨h0, j, h1, h2, h3, h4, h5⟩ := h.known hk
  refine ⟨h0, ?_⟩
  cases ho : q.one with
  | true =>
   rw [List.filter_cons_of_pos (by rw [hd, ho]; simp), List.map_cons] at h2
   have hj : j < c := by
    rcases Nat.lt_or_ge j c with h6 | h6
    ·exact h6
    ·rw [show c - j = 0 from z2_] at h2; simp at h2
   rw [show c - j = (c - (j + 1)) + 1 from z2_, List.range'_succ] at h2
   injection h2 with h6 h7
   have hoe := h4 q List.mem_cons_self hd ho
   have hw : F + j + 1 ≤ (recv er es r q).w := by
    unfold recv
    rw [if_neg (not_not_intro hoe)]
    dsimp only
    rw [ho, h6]
    simp only [true_and]
    split <;> omega
   refine ⟨j + 1, hj, ?_, z2_, fun x hx h8 h9 => ?_, fun h8 => .inr ⟨⟨!q.d, false, es, 0, (recv er es r q).w, Core.mk []⟩, List.mem_append.2 (.inr ?_), by rw [hd], rfl, by show F + c ≤ (recv er es r q).w; omega⟩⟩
   ·rw [List.filter_append, reply_none, List.append_nil, h7]
    rfl
   ·rcases List.mem_append.1 hx with hx | hx
    ·exact h4 x (List.mem_cons_of_mem _ hx) h8 h9
    ·rw [(reply_mem hx).2] at h9; cases h9
   ·unfold reply
    rw [if_pos ho]
    exact List.mem_singleton.2 rfl
  | false =>
   rw [List.filter_cons_of_neg (by rw [ho]; simp)] at h2
   refine ⟨j, h1, ?_, by rw [recv_no _ _ _ _ ho]; exact h3, fun x hx h8 h9 => ?_, fun h8 => ?_⟩
   ·rw [List.filter_append, reply_none, List.append_nil, h2]
   ·rcases List.mem_append.1 hx with hx | hx
    ·exact h4 x (List.mem_cons_of_mem _ hx) h8 h9
    ·rw [(reply_mem hx).2] at h9; cases h9
   ·rcases h5 h8 with h6 | ⟨x, hx, h9, h10, h11⟩
    ·exact .inl h6
    ·refine .inr ⟨x, List.mem_append.2 (.inl ?_), h9, h10, h11⟩
     rcases List.mem_cons.1 hx with rfl | hx
     ·rw [hd] at h9; cases d <;> cases h9
     ·exact hx
 ·rcases h.learns with h1 | h1 | ⟨x, hx, h2, h3⟩ | ⟨x, hx, h2⟩
  ·exact .inl h1
  ·exact .inr (.inl h1)
  ·rcases List.mem_cons.1 hx with rfl | hx
   ·refine .inr (.inr (.inr ⟨⟨!x.d, false, es, 0, (recv er es r x).w, Core.mk []⟩, List.mem_append.2 (.inr ?_), by rw [hd]⟩))
    unfold reply
    rw [if_pos h3]
    exact List.mem_singleton.2 rfl
   ·exact .inr (.inr (.inl ⟨x, List.mem_append.2 (.inl hx), h2, h3⟩))
  ·rcases List.mem_cons.1 hx with rfl | hx
   ·rw [hd] at h2; cases d <;> cases h2
   ·exact .inr (.inr (.inr ⟨x, List.mem_append.2 (.inl hx), h2⟩))
theorem Pr.toS {d : Bool} {er es F c : Nat} {kn : Prop} {s r : En} {q : Rc} {qs : List Rc} (h : Pr d er F c kn s r (q :: qs)) (hd : q.d = (!d)) (hno : q.one = false → q.o = es) (hw : q.w ≤ s.f + s.l.length) : Pr d er F c kn (recv es er s q) r (qs ++ reply es er s q) := by
 refine ⟨Nat.le_trans h.f (recv_f _ _ _ _), fun hk => ⟨recv_o _ _ _ _, ?_⟩, .inl (recv_o _ _ _ _)⟩
 obtain ⟨h0, j, h1, h2, h3, h4, h5⟩ := h.known hk
 rw [List.filter_cons_of_neg (by rw [hd]; cases d <;> simp)] at h2
 refine ⟨j, h1, ?_, h3, fun x hx h8 h9 => ?_, fun h8 => ?_⟩
 ·rw [List.filter_append, reply_none, List.append_nil, h2]
 ·rcases List.mem_append.1 hx with hx | hx
  ·exact h4 x (List.mem_cons_of_mem _ hx) h8 h9
  ·rw [(reply_mem hx).2] at h9; cases h9
 ·rcases h5 h8 with h6 | ⟨x, hx, h9, h10, h11⟩
  ·exact .inl (Nat.le_trans h6 (recv_f _ _ _ _))
  ·rcases List.mem_cons.1 hx with rfl | hx
   ·refine .inl ?_
    unfold recv
    rw [if_neg (not_not_intro (hno h10))]
    dsimp only
    unfold goneS
    by_cases c6 : s.f ≤ x.w ∧ x.w ≤ s.f + s.l.length
    ·rw [if_pos c6]; exact h11
    ·rw [if_neg c6]; dsimp only; omega
   ·exact .inr ⟨x, List.mem_append.2 (.inl hx), h9, h10, h11⟩
theorem Pr.done {d : Bool} {er F c : Nat} {kn : Prop} {s r : En} (h : Pr d er F c kn s r []) : F ≤ s.f ∧ (kn → F + c ≤ s.f) ∧ (s.o = er ∨ c = 0) := by
 refine ⟨h.f, fun hk => ?_, ?_⟩
 ·obtain ⟨h0, j, h1, h2, h3, h4, h5⟩ := h.known hk
  rw [List.filter_nil, List.map_nil] at h2
  have : c - j = 0 := by
   have := congrArg List.length h2
   simpa using this.symm
  rcases h5 z2_ with h6 | ⟨x, hx, _⟩
  ·exact h6
  ·cases hx
 ·rcases h.learns with h1 | h1 | ⟨x, hx, _⟩ | ⟨x, hx, _⟩
  ·exact .inl h1
  ·exact .inr h1
  ·cases hx
  ·cases hx
end Go.Proofs.Ytecfndblgefhdaa.Link
