import Derived.Test.YtgfmdfgibkkfaaaKaPx2
import Derived.Test.YtgfmdfgibkkfaaaKaPx5
import Derived.Test.YtgfmdfgibkkfaaaKaLinkC
set_option linter.unusedVariables false
set_option linter.unusedSimpArgs false
namespace Go.Proofs.Ytgfmdfgibkkfaaa.Link
open Go.RowKit Go.Proofs.Ytgfmdfgibkkfaaa.P Go.Proofs.Ytgfmdfgibkkfaaa.Core Go.Proofs.Ytgfmdfgibkkfaaa.Oct Go.Proofs.Ytgfmdfgibkkfaaa.Frame Go.Proofs.YtgfmdfgibkkfaaaW.PrintWords Go.Proofs.YtgfmdfgibkkfaaaW.PrintLast Go.Proofs.YtgfmdfgibkkfaaaW.PrintMore
def resS (t : After) : link_Take.Res := ⟨t.o, t.f, t.l, t.w, t.s, t.has, t.reply, t.anew⟩
theorem pack2 (a o f w : Nat) (l : List ByteArray) {k : Nat} (hk : 20 ≤ k) (ha : a < 9223372036854775808) (ho : o < 9223372036854775808) (hw : w < 9223372036854775808) : link_End_packet.f k a o f l w 2 0 (⟨#[]⟩ : ByteArray) = some (packetS 2 a o 0 w (mk [])) := by
  have := packet_eq 2 f l a o 0 w (mk []) ha ho (by omega) hw (by rw [mk_size]; simp) hk
  rw [show ((0 : Nat) : Int) = 0 from rfl] at this
  exact this
theorem tail_eq (a o f w n2 : Nat) (l : List ByteArray) (anew : Bool) (kind : Int) (s : ByteArray) {k : Nat} (hk : 20 ≤ k) (ha : a ≤ 1099511627776) (ho : o ≤ 1099511627776) (hw : w ≤ 1099511627776) :
    link_Take.tail k a o f l w anew kind n2 s = some (if kind = 1 then (if n2 = w ∧ w < 1099511627776 then ⟨o, f, l, ((w + 1 : Nat) : Int), s, true, packetS 2 a o 0 (w + 1) (mk []), anew⟩ else ⟨o, f, l, w, mk [], false, packetS 2 a o 0 w (mk []), anew⟩) else ⟨o, f, l, w, mk [], false, mk [], anew⟩) := by
  have p0 := pack2 a o f w l hk (by omega) (by omega) (by omega)
  have p1 := pack2 a o f (w + 1) l hk (by omega) (by omega) (by omega)
  have c1 : w < 1099511627776 → (w : Int) < 1099511627776 := by omega
  have c2 : ¬ w < 1099511627776 → ¬ (w : Int) < 1099511627776 := by omega
  have c3 : n2 ≠ w → ¬ (n2 : Int) = (w : Int) := by omega
  have e1 : wrap64 ((w : Int) + 1) = ((w + 1 : Nat) : Int) := by rw [wrap64_id (by omega) (by omega)]; omega
  unfold link_Take.tail
  by_cases h1 : kind = 1
  · rw [if_pos h1, if_pos h1]
    by_cases h2 : n2 = w
    · rw [if_pos (congrArg _ h2)]
      by_cases h3 : w < 1099511627776
      · rw [if_pos (c1 h3), if_pos ⟨h2, h3⟩, e1, p1]; rfl
      · rw [if_neg (c2 h3), if_neg (fun h => h3 h.2), p0]; rfl
    · rw [if_neg (c3 h2), if_neg (fun h => h2 h.1), p0]; rfl
  · rw [if_neg h1, if_neg h1]; rfl
theorem rest_eq (a o f w : Nat) (l : List ByteArray) (anew : Bool) (h : Pk) {k : Nat} (hk : 20 ≤ k) (ha : a ≤ 1099511627776) (ho : o ≤ 1099511627776) (hf : f ≤ 1099511627776) (hw : w ≤ 1099511627776) (hl : l.length ≤ 1000) (h3 : h.n3 ≤ 9223372036854775807) :
    link_Take.rest k a o f l w anew h.kind h.n1 h.n2 h.n3 h.s = some (resS (heardS a o f l w anew h)) := by
  have p0 := pack2 a o f w l hk (by omega) (by omega) (by omega)
  have t0 := tail_eq a o f w h.n2 l anew h.kind h.s hk ha ho hw
  have t1 := tail_eq a o h.n3 w h.n2 (l.drop (h.n3 - f)) anew h.kind h.s hk ha ho hw
  have c1 : h.n1 ≠ a → ¬ (h.n1 : Int) = (a : Int) := by omega
  have c2 : (f : Int) ≤ (h.n3 : Int) ↔ f ≤ h.n3 := by omega
  have c3 : (h.n3 : Int) ≤ ((f + l.length : Nat) : Int) ↔ h.n3 ≤ f + l.length := by omega
  have c4 : f ≤ h.n3 → h.n3 ≤ f + l.length → (0 : Int) ≤ ((h.n3 - f : Nat) : Int) ∧ ((h.n3 - f : Nat) : Int) ≤ (l.length : Int) := by omega
  have e1 : wrap64 ((f : Int) + (l.length : Int)) = ((f + l.length : Nat) : Int) := by rw [wrap64_id (by omega) (by omega)]; omega
  have e2 : f ≤ h.n3 → wrap64 ((h.n3 : Int) - (f : Int)) = ((h.n3 - f : Nat) : Int) := by intro hle; clear e1; rw [wrap64_id (by omega) (by omega)]; omega
  unfold link_Take.rest heardS
  by_cases q1 : h.n1 = a
  · rw [if_pos (congrArg _ q1), if_neg (not_not_intro q1), e1]
    by_cases q2 : f ≤ h.n3 ∧ h.n3 ≤ f + l.length
    · rw [if_pos (by rw [decide_eq_true (c2.2 q2.1), decide_eq_true (c3.2 q2.2)]; rfl), e2 q2.1, if_pos (c4 q2.1 q2.2), Int.toNat_natCast, t1]
      unfold goneS
      rw [if_pos q2]
      by_cases k1 : h.kind = 1
      · rw [if_pos k1, if_pos k1]
        by_cases k2 : h.n2 = w ∧ w < 1099511627776
        · rw [if_pos k2, if_pos k2]; rfl
        · rw [if_neg k2, if_neg k2]; rfl
      · rw [if_neg k1, if_neg k1]; rfl
    · have hd : (decide ((f : Int) ≤ (h.n3 : Int)) && decide ((h.n3 : Int) ≤ ((f + l.length : Nat) : Int))) = false := by
        rw [Bool.and_eq_false_iff, decide_eq_false_iff_not, decide_eq_false_iff_not, c2, c3]
        by_cases q3 : f ≤ h.n3
        · exact .inr (fun q4 => q2 ⟨q3, q4⟩)
        · exact .inl q3
      rw [hd, if_neg (by decide), t0]
      unfold goneS
      rw [if_neg q2]
      by_cases k1 : h.kind = 1
      · rw [if_pos k1, if_pos k1]
        by_cases k2 : h.n2 = w ∧ w < 1099511627776
        · rw [if_pos k2, if_pos k2]; rfl
        · rw [if_neg k2, if_neg k2]; rfl
      · rw [if_neg k1, if_neg k1]; rfl
  · rw [if_neg (c1 q1), if_pos q1, p0]; rfl
theorem take_good (a o f w : Nat) (l : List ByteArray) (p : ByteArray) (hs : p.size ≤ 140737488351232) {k : Nat} (hk : 20 ≤ k) (h : rightS a o f l w = true) : link_Take.f k a o f l w p = some (resS (takeS a o f l w p)) := by
  have hd := of_decide_eq_true h
  obtain ⟨⟨h1, h2⟩, ⟨h3, h4⟩, ⟨h5, h6⟩, ⟨h7, h8⟩, h9, h10⟩ := hd
  unfold link_Take.f takeS
  cases hh : hearS p with
  | none =>
    obtain ⟨x0, x1, x2, x3, x4, x5, hr⟩ := read_none p hs hh hk
    rw [hr]; rfl
  | some q =>
    obtain ⟨g1, g2, g3, g4, g5, g6, g7⟩ := hear_spec hh
    rw [read_some p hs hh hk, right_eq, h]
    simp only [Option.bind_some, if_true]
    have c1 : q.n0 < o → (q.n0 : Int) < (o : Int) := by omega
    have c2 : ¬ q.n0 < o → ¬ (q.n0 : Int) < (o : Int) := by omega
    have c3 : o < q.n0 → (o : Int) < (q.n0 : Int) := by omega
    have c4 : ¬ o < q.n0 → ¬ (o : Int) < (q.n0 : Int) := by omega
    have c5 : o ≠ 0 → ¬ (o : Int) = 0 := by omega
    by_cases q1 : q.n0 < o
    · rw [if_pos (c1 q1), if_pos q1]; rfl
    · rw [if_neg (c2 q1), if_neg q1, clone_eq l (by omega)]
      simp only [Option.bind_some]
      by_cases q2 : o < q.n0
      · rw [if_pos (c3 q2), if_pos q2]
        by_cases q3 : o = 0
        · rw [if_pos (show (o : Int) = 0 by omega), if_pos q3]
          exact rest_eq a q.n0 f 1 l false q hk (by omega) g3 (by omega) (by omega) (by omega) g6
        · rw [if_neg (c5 q3), if_neg q3]
          exact rest_eq a q.n0 1 1 [] true q hk (by omega) g3 (by omega) (by omega) (by simp) g6
      · rw [if_neg (c4 q2), if_neg q2]
        exact rest_eq a o f w l false q hk (by omega) (by omega) (by omega) (by omega) (by omega) g6
end Go.Proofs.Ytgfmdfgibkkfaaa.Link
