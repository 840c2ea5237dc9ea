/- The program's Has and Set in bits; the list of a block of masks is right. -/
import Derived.Test.YtcigkejiompieaaDoorPx0
import Derived.Test.YtcigkejiompieaaDoorPx3
import Derived.Test.YtcigkejiompieaaDoorPx6
import Derived.Test.YtcigkejiompieaaDoorQDirtyD
set_option linter.unusedVariables false
set_option linter.unusedSimpArgs false
namespace Go.Proofs.YtcigkejiompieaaDoor.Dirty
open Go.RowKit Go.Proofs.YtcigkejiompieaaDoor.P Go.Proofs.YtcigkejiompieaaDoorW.PrintWords Go.Proofs.YtcigkejiompieaaDoorW.PrintLast Go.Proofs.YtcigkejiompieaaDoorW.PrintMore

theorem rgt_snoc {b : S48} (hb : b.f0 ≤ 255 ∧ b.f1 ≠ 0 ∧ b.f1 < 4294967296) : ∀ {l : List S48} {last : Int}, rgt last l = true → (∀ c ∈ l, c.f0 < b.f0) → last < b.f0 → rgt last (l ++ [b]) = true
  | [], last, _, _, hl => by
    show (decide (last < b.f0 ∧ b.f0 ≤ 255 ∧ b.f1 ≠ 0 ∧ b.f1 < 4294967296) && true) = true
    rw [decide_eq_true ⟨hl, hb⟩]; rfl
  | c :: l, last, h, hc, _ => by
    rw [rgt, Bool.and_eq_true] at h
    rw [List.cons_append, rgt, Bool.and_eq_true]
    exact ⟨h.1, rgt_snoc hb h.2 (fun d hd => hc d (List.mem_cons_of_mem _ hd)) (hc c List.mem_cons_self)⟩
theorem bitsTo_mem (T : Nat → Int) (j : Nat) : ∀ c ∈ bitsTo T j, ∃ u, u < j ∧ c = (⟨(u : Int), T u⟩ : S48) ∧ T u ≠ 0 := by
  induction j with
  | zero => intro c hc; cases hc
  | succ j ih =>
    intro c hc
    unfold bitsTo at hc
    split at hc
    · obtain ⟨u, h1, h2, h3⟩ := ih c hc
      exact ⟨u, by omega, h2, h3⟩
    · rename_i h0
      rcases List.mem_append.1 hc with hc | hc
      · obtain ⟨u, h1, h2, h3⟩ := ih c hc
        exact ⟨u, by omega, h2, h3⟩
      · exact ⟨j, by omega, List.mem_singleton.1 hc, h0⟩
theorem bitsTo_rgt (T : Nat → Int) (h0 : T 0 = 0) (hT : ∀ u, T u < 4294967296) (j : Nat) (hj : j ≤ 256) : rgt 0 (bitsTo T j) = true := by
  induction j with
  | zero => rfl
  | succ j ih =>
    unfold bitsTo
    split
    · exact ih (by omega)
    · rename_i hz
      have hj0 : j ≠ 0 := fun h => hz (by rw [h]; exact h0)
      refine rgt_snoc ⟨by show (j : Int) ≤ 255; omega, hz, hT j⟩ (ih (by omega)) ?_ (by show (0 : Int) < (j : Int); omega)
      intro c hc
      obtain ⟨u, h1, rfl, _⟩ := bitsTo_mem T j c hc
      show (u : Int) < (j : Int)
      omega
theorem bitsTo_has (T : Nat → Int) (v n : Nat) (j : Nat) : hasI (bitsTo T j) (v : Int) n = (decide (v < j) && (T v).toNat.testBit n) := by
  have hap : ∀ x y : List S48, hasI (x ++ y) (v : Int) n = (hasI x (v : Int) n || hasI y (v : Int) n) := fun x y => List.any_append
  induction j with
  | zero => simp [bitsTo, hasI]
  | succ j ih =>
    unfold bitsTo
    by_cases hz : T j = 0
    · rw [if_pos hz, ih]
      by_cases hv : v = j
      · subst hv; simp [hz]
      · have : decide (v < j + 1) = decide (v < j) := by rw [decide_eq_decide]; omega
        rw [this]
    · rw [if_neg hz, hap, ih]
      show (_ || (decide ((j : Int) = (v : Int)) && (T j).toNat.testBit n || false)) = _
      by_cases hv : v = j
      · subst hv; simp
      · have h1 : decide (v < j + 1) = decide (v < j) := by rw [decide_eq_decide]; omega
        rw [h1, decide_eq_false (show ¬ (j : Int) = (v : Int) by omega)]
        simp
theorem and_one (x : Nat) (hx : x < 18446744073709551616) : Go.bits .and .u64 (x : Int) 1 = ((x % 2 : Nat) : Int) := by
  have := bits_mask .u64 64 (by decide) (fun n h0 h1 => by rw [IntKind.wrap_u64]; omega) 1 (by decide) (x : Int) (by omega) (by omega)
  simpa using this
theorem rhas_all (m : List S48) (hm : m.length ≤ 4611686018427387904) (hw : ∀ x ∈ m, 0 ≤ x.f1) (v n : Int) {k : Nat} (hk : m.length + 100 ≤ k) : counterfoilref10_Has.f k m v n = some (rgt 0 m && (decide (okB v n) && hasI m v n.toNat)) := by
  cases hr : rgt 0 m with
  | false =>
    obtain ⟨k, rfl⟩ : ∃ j, k = j + 1 := ⟨k - 1, by omega⟩
    unfold counterfoilref10_Has.f
    rw [rright_eq m hm (by omega), hr]
    simp only [Option.bind_some]
    rw [if_neg (by decide), counterfoilref10_Has.j0, if_pos rfl]
    rfl
  | true =>
    by_cases hn : 0 ≤ n ∧ n < 32
    · obtain ⟨n, rfl⟩ := Int.eq_ofNat_of_zero_le hn.1
      rw [rhas_eq m hm hr (rgt_small hr hw) v n (by omega) (by omega), Int.toNat_natCast, Bool.true_and]
      by_cases ho : okB v (n : Int)
      · rw [decide_eq_true ho, Bool.true_and]
      · rw [decide_eq_false ho, Bool.false_and]
        have : hasI m v n = false := by
          rw [hasI, List.any_eq_false]
          intro b hb
          have h1 := rgt_mem hr (by omega) b hb
          simp
          intro he
          exact absurd ⟨by omega, by omega, hn.1, hn.2⟩ ho
        rw [this]
    · obtain ⟨k, rfl⟩ : ∃ j, k = j + 1 := ⟨k - 1, by omega⟩
      have ho : ¬ okB v n := fun h => hn ⟨h.2.2.1, h.2.2.2⟩
      unfold counterfoilref10_Has.f
      rw [rright_eq m hm (by omega), hr, decide_eq_false ho]
      simp only [Option.bind_some, if_true]
      by_cases h0 : n < 0
      · rw [if_pos h0, counterfoilref10_Has.j0, if_pos rfl]; rfl
      · rw [if_neg h0, decide_eq_true (show n > 31 by omega), counterfoilref10_Has.j0, if_pos rfl]; rfl
end Go.Proofs.YtcigkejiompieaaDoor.Dirty
