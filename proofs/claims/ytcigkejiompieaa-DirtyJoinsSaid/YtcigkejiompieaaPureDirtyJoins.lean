/- For all masks of at most 300 volumes, DirtyJoins answers true: two are joined as the document says, in any order. -/
import Derived.Test.YtcigkejiompieaaPx0
import Derived.Test.YtcigkejiompieaaPx2
import Derived.Test.YtcigkejiompieaaPx3
import Derived.Test.YtcigkejiompieaaPx6
import Derived.Test.YtcigkejiompieaaDirtyD
namespace Go.Proofs.Ytcigkejiompieaa.Pure
open Go.RowKit Go.Proofs.Ytcigkejiompieaa.P Go.Proofs.Ytcigkejiompieaa.Dirty Go.Proofs.YtcigkejiompieaaW.PrintWords Go.Proofs.YtcigkejiompieaaW.PrintLast Go.Proofs.YtcigkejiompieaaW.PrintMore
set_option linter.unusedVariables false
set_option linter.unusedSimpArgs false

theorem wf_nonneg {m : List S63} (h : ∀ y ∈ m, (Lit.int .i64 y.f0).wf = true ∧ (Lit.int .u64 y.f1).wf = true) : ∀ b ∈ m, 0 ≤ b.f1 := by
  intro b hb
  have := (h b hb).2
  simp [Lit.wf, IntKind.min, IntKind.max, IntKind.signed, IntKind.bits] at this
  omega
theorem join_eq (a b : List S63) (ha : a.length ≤ 300) (hb : b.length ≤ 300) {k : Nat} (hk : 1000 ≤ k) : dirty_Join.f k a b = some (if (rgt 0 a && rgt 0 b) = true then (bitsTo (sprL [a, b] 2) 256, 0) else ([], 1)) := by
  unfold dirty_Join.f
  rw [right_eq a (by omega) (by omega), right_eq b (by omega) (by omega)]
  cases h1 : rgt 0 a with
  | false => rfl
  | true =>
    cases h2 : rgt 0 b with
    | false => rfl
    | true =>
      simp only [Option.bind_some, if_true, Bool.and_self]
      rw [if_pos ⟨rgt_inB h1, rgt_inB h2⟩]
theorem rjoin_eq (a b : List S63) (ha : a.length ≤ 300) (hb : b.length ≤ 300) (wa : ∀ x ∈ a, 0 ≤ x.f1) (wb : ∀ x ∈ b, 0 ≤ x.f1) {k : Nat} (hk : 20000000001 ≤ k) :
    counterfoilref10_Join.f k a b = some (if (rgt 0 a && rgt 0 b) = true then (bitsTo (fun v => ((gath (listS a ++ listS b) v : Nat) : Int)) 256, true) else ([], false)) := by
  obtain ⟨k, rfl⟩ : ∃ j, k = j + 1 := ⟨k - 1, by omega⟩
  unfold counterfoilref10_Join.f
  rw [rright_eq a (by omega) (by omega), rright_eq b (by omega) (by omega)]
  simp only [Option.bind_some]
  cases h1 : rgt 0 a with
  | false =>
    rw [if_neg (by decide), counterfoilref10_Join.j0, if_pos rfl]
    rfl
  | true =>
    rw [if_pos rfl]
    cases h2 : rgt 0 b with
    | false =>
      rw [counterfoilref10_Join.j0, if_pos (show (!false) = true from rfl)]
      rfl
    | true =>
      have la := list_len a
      have lb := list_len b
      have hall : (listS a ++ listS b).all mayS = true := by rw [List.all_append, list_may h1, list_may h2]; rfl
      have hlen : (listS a ++ listS b).length ≤ 1000000 := by rw [List.length_append]; omega
      have ho := of_eq (listS a ++ listS b) hlen (k := k) (by omega)
      rw [if_pos hall] at ho
      rw [counterfoilref10_Join.j0, if_neg (by decide), rlist_eq a ha h1 (rgt_small h1 wa) (by omega), rlist_eq b hb h2 (rgt_small h2 wb) (by omega)]
      simp only [Option.bind_some, List.nil_append, List.length_nil, Nat.zero_add]
      rw [if_pos (by omega), if_pos (by omega), ho]
      rfl
theorem spr_gath {a b : List S63} (h1 : rgt 0 a = true) (h2 : rgt 0 b = true) (wa : ∀ x ∈ a, 0 ≤ x.f1) (wb : ∀ x ∈ b, 0 ≤ x.f1) (l : List S37) (hl : ∀ v n, n < 32 → named l v n = (hasB a v n || hasB b v n)) : sprL [a, b] 2 = fun v => ((gath l v : Nat) : Int) := by
  obtain ⟨M, hM, he, hbit⟩ := spr_two a b (rgt_small h1 wa) (rgt_small h2 wb)
  rw [he]
  funext v
  congr 1
  refine eq_of_bits (hM v) (gath_lt _ v) (fun n hn => ?_)
  rw [hbit]
  unfold gath
  by_cases h0 : v = 0
  · subst h0
    rw [if_pos rfl, has_zero h1, has_zero h2, Nat.zero_testBit]
    rfl
  · rw [if_neg h0, sumBits_bit, decide_eq_true hn, Bool.true_and, hl v n hn]
theorem DirtyJoins : counterfoillaw10_DirtyJoins.Pure := by
  intro a b hwa hwb
  obtain ⟨k, hk⟩ : ∃ k, 20000000001 ≤ k := ⟨20000000001, Nat.le_refl _⟩
  refine ⟨k + 1, ?_⟩
  have wa := wf_nonneg hwa.2.2
  have wb := wf_nonneg hwb.2.2
  unfold counterfoillaw10_DirtyJoins.f
  by_cases q1 : (a.length : Int) > 300
  · rw [if_pos q1, counterfoillaw10_DirtyJoins.j0, if_pos rfl, awake_eq]; rfl
  rw [if_neg q1]
  by_cases q2 : (b.length : Int) > 300
  · rw [decide_eq_true q2, counterfoillaw10_DirtyJoins.j0, if_pos rfl, awake_eq]; rfl
  have ha : a.length ≤ 300 := by omega
  have hb : b.length ≤ 300 := by omega
  rw [decide_eq_false q2, counterfoillaw10_DirtyJoins.j0, if_neg (by decide), join_eq a b ha hb (by omega), join_eq b a hb ha (by omega), rjoin_eq a b ha hb wa wb hk, awake_eq]
  simp only [Option.bind_some]
  by_cases hr : (rgt 0 a && rgt 0 b) = true
  · have hr2 : (rgt 0 b && rgt 0 a) = true := by rw [Bool.and_comm]; exact hr
    rw [if_pos hr, if_pos hr2, if_pos hr]
    rw [Bool.and_eq_true] at hr
    have e1 := spr_gath hr.1 hr.2 wa wb (listS a ++ listS b) (fun v n hn => by rw [named_append, list_named a v n hn, list_named b v n hn])
    have e2 := spr_gath hr.2 hr.1 wb wa (listS a ++ listS b) (fun v n hn => by rw [named_append, list_named a v n hn, list_named b v n hn, Bool.or_comm])
    have hlen := bitsTo_len (fun v => ((gath (listS a ++ listS b) v : Nat) : Int)) 256
    rw [e1, e2]
    generalize bitsTo (fun v => ((gath (listS a ++ listS b) v : Nat) : Int)) 256 = m at hlen ⊢
    have he := equal_same m (by omega) (k := k) (by omega)
    simp only [he, Option.bind_some, if_true]
  · have hr2 : ¬ (rgt 0 b && rgt 0 a) = true := by rw [Bool.and_comm]; exact hr
    rw [if_neg hr, if_neg hr2, if_neg hr]
    rfl
end Go.Proofs.Ytcigkejiompieaa.Pure
