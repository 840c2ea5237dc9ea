import Derived.Test.YtgfmdfgibkkfaaaKaPx1
import Derived.Test.YtgfmdfgibkkfaaaKaPx2
import Derived.Test.YtgfmdfgibkkfaaaKaPx3
import Derived.Test.YtgfmdfgibkkfaaaKaLink
set_option linter.unusedVariables false
set_option linter.unusedSimpArgs false
namespace Go.Proofs.Ytgfmdfgibkkfaaa.Link
open Go.RowKit Go.Proofs.Ytgfmdfgibkkfaaa.P Go.Proofs.Ytgfmdfgibkkfaaa.Core Go.Proofs.Ytgfmdfgibkkfaaa.Oct Go.Proofs.Ytgfmdfgibkkfaaa.Frame Go.Proofs.YtgfmdfgibkkfaaaW.PrintWords Go.Proofs.YtgfmdfgibkkfaaaW.PrintLast Go.Proofs.YtgfmdfgibkkfaaaW.PrintMore
theorem clone_eq (l : List ByteArray) (hl : l.length ≤ 8796093022208) : slices_Clone_string_string.f l = some l := by
  unfold slices_Clone_string_string.f; rw [if_pos hl]
def putL (a o f : Nat) (l : List ByteArray) (w : Nat) (s : ByteArray) : Int × Int × Int × List ByteArray × Int × ByteArray × Int :=
  if 512 < s.size then (0, 0, 0, [], 0, mk [], 5) else
    if l.length = 64 ∨ 1099511627776 < f + l.length then (0, 0, 0, [], 0, mk [], 6) else
      (a, o, f, l ++ [s], w, if 4 < l.length + 1 then mk [] else packetS 1 a o (f + l.length) w s, 0)
theorem put_good (a o f : Nat) (l : List ByteArray) (w : Nat) (s : ByteArray) {k : Nat} (hk : 20 ≤ k) (h : rightS a o f l w = true) : link_Put.f k a o f l w s = some (putL a o f l w s) := by
  have hd := of_decide_eq_true h
  obtain ⟨⟨h1, h2⟩, ⟨h3, h4⟩, ⟨h5, h6⟩, ⟨h7, h8⟩, h9, h10⟩ := hd
  have e1 : wrap64 ((f : Int) + (l.length : Int)) = ((f + l.length : Nat) : Int) := by rw [wrap64_id (by omega) (by omega)]; omega
  unfold link_Put.f putL
  rw [right_eq, h]
  simp only [Option.bind_some]
  rw [if_pos trivial]
  by_cases c1 : 512 < s.size
  · rw [if_pos (by omega), if_pos c1]; rfl
  · rw [if_neg (by omega), if_neg c1]
    by_cases c2 : l.length = 64
    · rw [if_pos (by omega), if_pos (Or.inl c2)]; rfl
    · rw [if_neg (by omega), e1]
      by_cases c3 : 1099511627776 < f + l.length
      · rw [if_pos (by omega), if_pos (Or.inr c3)]; rfl
      · rw [if_neg (by omega), if_neg (show ¬ (l.length = 64 ∨ 1099511627776 < f + l.length) by omega), clone_eq l (by omega)]
        simp only [Option.bind_some]
        rw [if_pos (by omega)]
        have hl1 : (l ++ [s]).length = l.length + 1 := by simp
        by_cases c4 : 4 < l.length + 1
        · rw [if_pos (by rw [hl1]; omega), if_pos c4]; rfl
        · rw [if_neg (by rw [hl1]; omega), if_neg c4, hl1]
          have e2 : wrap64 (wrap64 ((f : Int) + ((l.length + 1 : Nat) : Int)) - 1) = ((f + l.length : Nat) : Int) := by
            rw [show wrap64 ((f : Int) + ((l.length + 1 : Nat) : Int)) = ((f + l.length + 1 : Nat) : Int) by rw [wrap64_id (by omega) (by omega)]; omega, wrap64_id (by omega) (by omega)]; omega
          rw [e2, packet_eq 1 f _ a o (f + l.length) w s (by omega) (by omega) (by omega) (by omega) (by omega) hk]
          rfl
def tickS (a o f : Nat) (l : List ByteArray) (w : Nat) (n : Nat) : List ByteArray := (List.range n).map fun i => packetS 1 a o (f + i) w (rdOf ByteArray.empty l (i : Int))
theorem tickS_length (a o f : Nat) (l : List ByteArray) (w n : Nat) : (tickS a o f l w n).length = n := by simp [tickS]
theorem tickS_succ (a o f : Nat) (l : List ByteArray) (w n : Nat) : tickS a o f l w (n + 1) = tickS a o f l w n ++ [packetS 1 a o (f + n) w (rdOf ByteArray.empty l (n : Int))] := by simp [tickS, List.range_succ]
theorem t_step (acc : List ByteArray) (c i a o f w : Int) (l : List ByteArray) (k : Nat) (t : ByteArray) (h1 : i < c) (h2 : 0 ≤ i) (h3 : i < (l.length : Int)) (hp : link_End_packet.f k a o f l w 1 (wrap64 (f + i)) (rdOf ByteArray.empty l i) = some t) (h4 : acc.length < 8796093022208) :
    link_Tick.l0 (k + 1) acc c i a o f l w = link_Tick.l0 k (acc ++ [t]) c (wrap64 (i + 1)) a o f l w := by
  rw [link_Tick.l0, if_pos h1, if_pos h2, if_pos h3, hp]
  simp only [Option.bind_some]
  rw [if_pos h4]
theorem tick_l0 (a o f : Nat) (l : List ByteArray) (w : Nat) (h : rightS a o f l w = true) (c : Nat) (hc : c ≤ 4) (hcl : c ≤ l.length) (d : Nat) : ∀ (i k : Nat), i + d = c → 30 + d < k →
    link_Tick.l0 k (tickS a o f l w i) (c : Int) (i : Int) a o f l w = some (tickS a o f l w c) := by
  have hd := of_decide_eq_true h
  obtain ⟨⟨h1, h2⟩, ⟨h3, h4⟩, ⟨h5, h6⟩, ⟨h7, h8⟩, h9, h10⟩ := hd
  induction d with
  | zero =>
    intro i k hi hk
    obtain ⟨k, rfl⟩ : ∃ m, k = m + 1 := ⟨k - 1, by omega⟩
    rw [link_Tick.l0, if_neg (by omega), show i = c by omega]
  | succ d ih =>
    intro i k hi hk
    obtain ⟨k, rfl⟩ : ∃ m, k = m + 1 := ⟨k - 1, by omega⟩
    have hm := h10 _ (rdOf_mem l i (by omega))
    have q1 : (i : Int) < (c : Int) := by omega
    have q2 : (0 : Int) ≤ (i : Int) := by omega
    have q3 : (i : Int) < (l.length : Int) := by omega
    have q4 : (tickS a o f l w i).length < 8796093022208 := by rw [tickS_length]; omega
    have hp0 := packet_eq 1 f l a o (f + i) w (rdOf ByteArray.empty l (i : Int)) (by omega) (by omega) (by omega) (by omega) (by omega) (k := k) (by omega)
    have ii : i + 1 + d = c := by omega
    have ik : 30 + d < k := by omega
    have e4 : wrap64 ((i : Int) + 1) = ((i + 1 : Nat) : Int) := by rw [wrap64_id (by omega) (by omega)]; omega
    have e5 : wrap64 ((f : Int) + (i : Int)) = ((f + i : Nat) : Int) := by clear e4; rw [wrap64_id (by omega) (by omega)]; omega
    have hp : link_End_packet.f k a o f l w 1 (wrap64 ((f : Int) + (i : Int))) (rdOf ByteArray.empty l (i : Int)) = some (packetS 1 a o (f + i) w (rdOf ByteArray.empty l (i : Int))) := by
      rw [e5]; exact hp0
    have hst := t_step (tickS a o f l w i) (c : Int) (i : Int) a o f w l k _ q1 q2 q3 hp q4
    rw [hst, e4, ← tickS_succ]
    exact ih (i + 1) k ii ik
theorem tick_good (a o f : Nat) (l : List ByteArray) (w : Nat) {k : Nat} (hk : 40 ≤ k) (h : rightS a o f l w = true) : link_Tick.f k a o f l w = some (tickS a o f l w (min l.length 4)) := by
  unfold link_Tick.f
  rw [right_eq, h]
  simp only [Option.bind_some]
  rw [if_pos trivial]
  have e : mn (l.length : Int) 4 = ((min l.length 4 : Nat) : Int) := by unfold mn; split <;> omega
  rw [e]
  have := tick_l0 a o f l w h (min l.length 4) (by omega) (by omega) (min l.length 4) 0 k (by omega) (by omega)
  simpa [tickS] using this
theorem new_eq (n : Int) : link_New.f n = some (if 1 ≤ n ∧ n ≤ 1099511627776 then (n, 0, 1, [], 1, 0) else (0, 0, 0, [], 0, 1)) := by
  unfold link_New.f
  rw [number_dec]
  simp only [Option.bind_some]
  by_cases h : 1 ≤ n ∧ n ≤ 1099511627776
  · rw [decide_eq_true h, if_pos rfl, if_pos h]
  · rw [decide_eq_false h, if_neg (by decide), if_neg h]
theorem packetS_size (a o n w : Nat) (s : ByteArray) (hs : s.size ≤ 600) : (packetS 1 a o n w s).size = 39 + s.size := by
  unfold packetS sealS
  rw [if_neg (by omega), if_neg (by rw [bodyS_size]; omega)]
  show (mk (sealL _ _)).size = _
  rw [mk_size, sealL_length]
  have := bodyS_size a o n w s
  have h2 : (bodyS a o n w s).data.toList.length = (bodyS a o n w s).size := by simp
  omega
theorem awake_eq {k : Nat} (hk : 40 ≤ k) : counterfoillaw15_awake.f k = some true := by
  unfold counterfoillaw15_awake.f
  rw [new_eq 1, if_pos (by decide)]
  simp only [Option.bind_some]
  have hr : rightS ((1 : Nat) : Int) ((0 : Nat) : Int) ((1 : Nat) : Int) [] ((1 : Nat) : Int) = true := by simp [rightS]
  have hp := put_good 1 0 1 [] 1 ⟨#[97]⟩ (k := k) (by omega) hr
  have hr2 : rightS ((1 : Nat) : Int) ((0 : Nat) : Int) ((1 : Nat) : Int) [⟨#[97]⟩] ((1 : Nat) : Int) = true := by
    unfold rightS
    refine decide_eq_true ⟨by omega, by omega, by omega, by omega, by decide, ?_⟩
    intro s hs
    rw [List.mem_singleton] at hs
    subst hs
    decide
  have ht := tick_good 1 0 1 [⟨#[97]⟩] 1 (k := k) (by omega) hr2
  have hz : (⟨#[97]⟩ : ByteArray).size = 1 := rfl
  unfold putL at hp
  rw [if_neg (by rw [hz]; omega), if_neg (by simp), if_neg (by simp)] at hp
  rw [show ((1 : Nat) : Int) = 1 from rfl, show ((0 : Nat) : Int) = 0 from rfl] at hp ht
  rw [hp]
  have hs := packetS_size 1 0 1 1 (⟨#[97]⟩ : ByteArray) (by rw [hz]; omega)
  simp only [Option.bind_some, List.nil_append, List.length_nil, Nat.add_zero]
  simp only [hs, ht, hz, List.length_singleton, Option.bind_some, tickS_length]
  rfl
end Go.Proofs.Ytgfmdfgibkkfaaa.Link
