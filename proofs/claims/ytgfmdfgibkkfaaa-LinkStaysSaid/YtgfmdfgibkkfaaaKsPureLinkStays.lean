/- For all ends of at most 100 pieces, far from the end of numbers, all packets and all pieces, LinkStays answers true: an end that is right stays so, whatever comes, and whatever is put. -/
import Derived.Test.YtgfmdfgibkkfaaaKsPx0
import Derived.Test.YtgfmdfgibkkfaaaKsLinkD
import Derived.Test.YtgfmdfgibkkfaaaKsHLinkStays
namespace Go.Proofs.Ytgfmdfgibkkfaaa.Pure
open Go.RowKit Go.Proofs.Ytgfmdfgibkkfaaa.P Go.Proofs.Ytgfmdfgibkkfaaa.Core Go.Proofs.Ytgfmdfgibkkfaaa.Oct Go.Proofs.Ytgfmdfgibkkfaaa.Frame Go.Proofs.Ytgfmdfgibkkfaaa.Link Go.Proofs.YtgfmdfgibkkfaaaW.PrintWords Go.Proofs.YtgfmdfgibkkfaaaW.PrintLast Go.Proofs.YtgfmdfgibkkfaaaW.PrintMore
set_option linter.unusedVariables false
set_option linter.unusedSimpArgs false

theorem right_mk {a o f w : Nat} {l : List ByteArray} (h1 : 1 ≤ a ∧ a ≤ 1099511627776) (h2 : o ≤ 1099511627776) (h3 : 1 ≤ f ∧ f ≤ 1099511627776) (h4 : 1 ≤ w ∧ w ≤ 1099511627776) (h5 : l.length ≤ 64) (h6 : ∀ s ∈ l, s.size ≤ 512) : rightS a o f l w = true :=
  decide_eq_true ⟨by omega, by omega, by omega, by omega, h5, h6⟩
/-- What an end is behind a packet, in words. -/
def Stayed (a o f : Nat) (l : List ByteArray) (w : Nat) (t : After) : Prop :=
  o ≤ t.o ∧ t.o ≤ 1099511627776 ∧ 1 ≤ t.f ∧ t.f ≤ f + l.length ∧ t.l.length ≤ l.length ∧ t.f + t.l.length ≤ f + l.length ∧ (∀ s ∈ t.l, s ∈ l) ∧ 1 ≤ t.w ∧ t.w ≤ w + 1 ∧ (w ≤ t.w ∨ o < t.o) ∧ (t.has = true → 1 < t.w) ∧ (t.anew = true → t.l = [])
theorem gone_stays (f : Nat) (l : List ByteArray) (n : Nat) (h1 : 1 ≤ f) : 1 ≤ (goneS f l n).1 ∧ (goneS f l n).1 ≤ f + l.length ∧ (goneS f l n).2.length ≤ l.length ∧ (goneS f l n).1 + (goneS f l n).2.length ≤ f + l.length ∧ (∀ s ∈ (goneS f l n).2, s ∈ l) := by
  unfold goneS
  split
  · rename_i h
    exact ⟨by show 1 ≤ n; omega, h.2, by simp, by simp only [List.length_drop]; omega, fun s hs => List.mem_of_mem_drop hs⟩
  · exact ⟨h1, by simp, Nat.le_refl _, Nat.le_refl _, fun _ h => h⟩
theorem heard_stays (a o f : Nat) (l : List ByteArray) (w : Nat) (anew : Bool) (h : Pk) (h1 : 1 ≤ f) (h2 : 1 ≤ w) (h3 : o ≤ 1099511627776) (ha : anew = true → l = []) : 
    o ≤ (heardS a o f l w anew h).o ∧ (heardS a o f l w anew h).o ≤ 1099511627776 ∧ 1 ≤ (heardS a o f l w anew h).f ∧ (heardS a o f l w anew h).f ≤ f + l.length ∧ (heardS a o f l w anew h).l.length ≤ l.length ∧ (heardS a o f l w anew h).f + (heardS a o f l w anew h).l.length ≤ f + l.length ∧ (∀ s ∈ (heardS a o f l w anew h).l, s ∈ l) ∧ 1 ≤ (heardS a o f l w anew h).w ∧ (heardS a o f l w anew h).w ≤ w + 1 ∧ w ≤ (heardS a o f l w anew h).w ∧ ((heardS a o f l w anew h).has = true → 1 < (heardS a o f l w anew h).w) ∧ ((heardS a o f l w anew h).anew = true → (heardS a o f l w anew h).l = []) := by
  obtain ⟨g1, g2, g3, g4, g5⟩ := gone_stays f l h.n3 h1
  have g6 : anew = true → (goneS f l h.n3).2 = [] := fun hh => List.eq_nil_of_length_eq_zero (by rw [ha hh] at g3 ⊢; simpa using g3)
  unfold heardS
  by_cases q1 : h.n1 ≠ a
  · rw [if_pos q1]
    exact ⟨Nat.le_refl _, h3, h1, by simp, Nat.le_refl _, Nat.le_refl _, fun _ h => h, h2, by simp, Nat.le_refl _, fun h => by simp at h, ha⟩
  · rw [if_neg q1]
    by_cases q2 : h.kind = 1
    · rw [if_pos q2]
      by_cases q3 : h.n2 = w ∧ w < 1099511627776
      · rw [if_pos q3]
        exact ⟨Nat.le_refl _, h3, g1, g2, g3, g4, g5, by simp, Nat.le_refl _, by simp, fun _ => by show 1 < w + 1; omega, g6⟩
      · rw [if_neg q3]
        exact ⟨Nat.le_refl _, h3, g1, g2, g3, g4, g5, h2, by simp, Nat.le_refl _, fun h => by simp at h, g6⟩
    · rw [if_neg q2]
      exact ⟨Nat.le_refl _, h3, g1, g2, g3, g4, g5, h2, by simp, Nat.le_refl _, fun h => by simp at h, g6⟩
theorem take_stays (a o f : Nat) (l : List ByteArray) (w : Nat) (p : ByteArray) (h : rightS a o f l w = true) : Stayed a o f l w (Link.takeS a o f l w p) := by
  have hd := of_decide_eq_true h
  obtain ⟨⟨h1, h2⟩, ⟨h3, h4⟩, ⟨h5, h6⟩, ⟨h7, h8⟩, h9, h10⟩ := hd
  have hsame : Stayed a o f l w ⟨o, f, l, w, mk [], false, mk [], false⟩ := ⟨Nat.le_refl _, by show o ≤ _; omega, by show 1 ≤ f; omega, by simp, Nat.le_refl _, Nat.le_refl _, fun _ h => h, by show 1 ≤ w; omega, by simp, .inl (Nat.le_refl _), fun h => by simp at h, fun h => by simp at h⟩
  unfold Link.takeS
  cases hh : hearS p with
  | none => exact hsame
  | some q =>
    obtain ⟨g1, g2, g3, g4, g5, g6, g7⟩ := hear_spec hh
    show Stayed a o f l w (if q.n0 < o then _ else _)
    by_cases q1 : q.n0 < o
    · rw [if_pos q1]; exact hsame
    · rw [if_neg q1]
      by_cases q2 : o < q.n0
      · rw [if_pos q2]
        by_cases q3 : o = 0
        · rw [if_pos q3]
          obtain ⟨k1, k2, k3, k4, k5, k6, k7, k8, k9, k10, k11, k12⟩ := heard_stays a q.n0 f l 1 false q (by omega) (by omega) g3 (fun h => by simp at h)
          exact ⟨by omega, k2, k3, k4, k5, k6, k7, k8, by omega, .inr (by omega), k11, k12⟩
        · rw [if_neg q3]
          obtain ⟨k1, k2, k3, k4, k5, k6, k7, k8, k9, k10, k11, k12⟩ := heard_stays a q.n0 1 [] 1 true q (by omega) (by omega) g3 (fun _ => rfl)
          rw [List.length_nil] at k4 k5 k6
          exact ⟨by omega, k2, k3, by omega, by omega, by omega, fun s hs => absurd (k7 s hs) (by simp), k8, by omega, .inr (by omega), k11, k12⟩
      · rw [if_neg q2]
        obtain ⟨k1, k2, k3, k4, k5, k6, k7, k8, k9, k10, k11, k12⟩ := heard_stays a o f l w false q (by omega) (by omega) (by omega) (fun h => by simp at h)
        exact ⟨k1, k2, k3, k4, k5, k6, k7, k8, k9, .inl k10, k11, k12⟩
theorem LinkStays : counterfoillaw15_LinkStays.Pure := by
  intro a o f l w p s ha ho hf hl hw hp hs
  obtain ⟨k, hk⟩ : ∃ k, 200000 ≤ k := ⟨200000, Nat.le_refl _⟩
  refine ⟨k, ?_⟩
  have haw := awake_eq (k := k) (by omega)
  unfold counterfoillaw15_LinkStays.f
  rw [few_eq a o f l w hl (by omega), haw, right_eq]
  simp only [Option.bind_some]
  by_cases hfew : l.length ≤ 100 ∧ tot l ≤ 131072
  · rw [decide_eq_true hfew, if_pos rfl]
    cases hr : rightS a o f l w with
    | false => rfl
    | true =>
      rw [if_pos rfl]
      by_cases q1 : 549755813888 < f
      · rw [if_pos q1]
      · rw [if_neg q1]
        by_cases q2 : 549755813888 < w
        · rw [if_pos q2]
        · rw [if_neg q2]
          obtain ⟨a, o, f, w, rfl, rfl, rfl, rfl⟩ := right_nat hr
          have hd := of_decide_eq_true hr
          obtain ⟨⟨h1, h2⟩, ⟨h3, h4⟩, ⟨h5, h6⟩, ⟨h7, h8⟩, h9, h10⟩ := hd
          rw [take_good a o f w l p hp (by omega) hr]
          have hst := take_stays a o f l w p hr
          generalize Link.takeS a o f l w p = t at *
          obtain ⟨k1, k2, k3, k4, k5, k6, k7, k8, k9, k10, k11, k12⟩ := hst
          have hy : rightS (a : Int) (t.o : Int) (t.f : Int) t.l (t.w : Int) = true := right_mk (by omega) k2 ⟨k3, by omega⟩ ⟨k8, by omega⟩ (by omega) (fun s hs => h10 s (k7 s hs))
          simp only [Option.bind_some, resS]
          rw [put_good a t.o t.f t.l t.w s (by omega) hy]
          simp only [Option.bind_some]
          rw [right_eq, right_eq, hy]
          simp only [Option.bind_some]
          have i1 : (o : Int) ≤ (t.o : Int) := by omega
          have i2 : (w : Int) ≤ (t.w : Int) ∨ (o : Int) < (t.o : Int) := by omega
          have i3 : t.has = true → (1 : Int) < (t.w : Int) := fun h => by have := k11 h; omega
          have i4 : t.l.length ≤ 64 := by omega
          have hfine : ∀ rz : Bool, (((putL a t.o t.f t.l t.w s).2.2.2.2.2.2 = 0 → rz = true ∧ ((putL a t.o t.f t.l t.w s).2.2.2.1.length : Int) = wrap64 ((t.l.length : Int) + 1))) → counterfoillaw15_LinkStays.fine (o : Int) (w : Int) ⟨t.o, t.f, t.l, t.w, t.s, t.has, t.reply, t.anew⟩ (putL a t.o t.f t.l t.w s).2.2.2.2.2.2 (putL a t.o t.f t.l t.w s).2.2.2.1 rz true :=
            fun rz hz => ⟨hz, rfl, i1, i2, i3, k12⟩
          rw [if_pos]
          refine hfine _ ?_
          clear hfine i1 i2 i3
          have e1 : wrap64 ((t.l.length : Int) + 1) = ((t.l.length + 1 : Nat) : Int) := by rw [wrap64_id (by omega) (by omega)]; omega
          rw [e1]
          clear e1
          unfold putL
          by_cases c1 : 512 < s.size
          · rw [if_pos c1]; intro h0; exact absurd h0 (show ¬ (5 : Int) = 0 by decide)
          · rw [if_neg c1]
            by_cases c2 : t.l.length = 64 ∨ 1099511627776 < t.f + t.l.length
            · rw [if_pos c2]; intro h0; exact absurd h0 (show ¬ (6 : Int) = 0 by decide)
            · rw [if_neg c2]
              intro _
              refine ⟨?_, ?_⟩
              · refine right_mk (by omega) k2 ⟨k3, by omega⟩ ⟨k8, by omega⟩ (by rw [List.length_append, List.length_singleton]; omega) ?_
                intro z hz
                rcases List.mem_append.1 hz with hz | hz
                · exact h10 z (k7 z hz)
                · rw [List.mem_singleton] at hz; subst hz; omega
              · show ((t.l ++ [s]).length : Int) = _
                rw [List.length_append, List.length_singleton]
  · rw [decide_eq_false hfew]; rfl

end Go.Proofs.Ytgfmdfgibkkfaaa.Pure
