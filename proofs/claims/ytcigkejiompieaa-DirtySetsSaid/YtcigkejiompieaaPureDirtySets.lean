/- For all masks of at most 300 volumes, all volumes and blocks, DirtySets answers true: a block more is marked, and told, as the document says. -/
import Derived.Test.YtcigkejiompieaaPx0
import Derived.Test.YtcigkejiompieaaPx2
import Derived.Test.YtcigkejiompieaaPx7
import Derived.Test.YtcigkejiompieaaDirtyE
namespace Go.Proofs.Ytcigkejiompieaa.Pure
open Go.RowKit Go.Proofs.Ytcigkejiompieaa.P Go.Proofs.Ytcigkejiompieaa.Dirty Go.Proofs.YtcigkejiompieaaW.PrintWords Go.Proofs.YtcigkejiompieaaW.PrintLast Go.Proofs.YtcigkejiompieaaW.PrintMore
set_option linter.unusedVariables false
set_option linter.unusedSimpArgs false

theorem wf_nonneg {m : List S63} (h : ∀ y ∈ m, (Lit.int .i64 y.f0).wf = true ∧ (Lit.int .u64 y.f1).wf = true) : ∀ b ∈ m, 0 ≤ b.f1 := by
  intro b hb
  have := (h b hb).2
  simp [Lit.wf, IntKind.min, IntKind.max, IntKind.signed, IntKind.bits] at this
  omega
theorem set_eq (m : List S63) (hm : m.length ≤ 300) (v n : Int) {k : Nat} (hk : 1000 ≤ k) : dirty_Set.f k m v n = some (if rgt 0 m = true then (if okB v n then (bitsTo (markOne (sprL [m] 1) v.toNat n.toNat) 256, 0) else ([], 10)) else ([], 1)) := by
  unfold dirty_Set.f
  rw [right_eq m (by omega) (by omega)]
  simp only [Option.bind_some]
  by_cases hr : rgt 0 m = true
  · rw [if_pos hr, if_pos hr]
    by_cases ho : okB v n
    · rw [if_pos ho, if_pos ho, if_pos (rgt_inB hr)]
    · rw [if_neg ho, if_neg ho]
  · rw [if_neg hr, if_neg hr]
theorem mark_gath {m : List S63} (hr : rgt 0 m = true) (hw : ∀ x ∈ m, 0 ≤ x.f1) (v n : Nat) (hv : 1 ≤ v) (hn : n < 32) :
    markOne (sprL [m] 1) v n = fun u => ((gath (listS m ++ [(⟨(v : Int), (n : Int)⟩ : S37)]) u : Nat) : Int) := by
  obtain ⟨M, hM, he, hbit⟩ := spr_one m (rgt_small hr hw)
  have hp : 2 ^ n < 2 ^ 32 := Nat.pow_lt_pow_right (by omega) hn
  have hpi : IntKind.u64.wrap (2 ^ n) = ((2 ^ n : Nat) : Int) := by
    rw [IntKind.wrap_u64, show (2 : Int) ^ n = ((2 ^ n : Nat) : Int) from by norm_cast]
    generalize 2 ^ n = x at hp ⊢
    omega
  rw [he]
  funext u
  have h1 : markOne (fun v => ((M v : Nat) : Int)) v n u = (((if u = v then M v ||| 2 ^ n else M u : Nat)) : Int) := by
    unfold markOne upd
    by_cases h : u = v
    · have := hM v
      rw [if_pos h, if_pos h, hpi, bits_or64 _ _ (by omega) (by omega)]
    · rw [if_neg h, if_neg h]
  rw [h1]
  congr 1
  refine eq_of_bits ?_ (gath_lt _ u) (fun i hi => ?_)
  · split
    · exact Nat.or_lt_two_pow (n := 32) (hM v) hp
    · exact hM u
  · unfold gath
    by_cases h0 : u = 0
    · subst h0
      rw [if_neg (by omega), if_pos rfl, hbit, has_zero hr, Nat.zero_testBit]
    · rw [if_neg h0, sumBits_bit, decide_eq_true hi, Bool.true_and, named_append, list_named m u i hi]
      show _ = (hasB m u i || (decide ((v : Int) = (u : Int)) && decide ((n : Int) = (i : Int)) || false))
      by_cases h : u = v
      · subst h
        rw [if_pos rfl, Nat.testBit_or, hbit, Nat.testBit_two_pow, decide_eq_true rfl, Bool.true_and, Bool.or_false]
        congr 1
        rw [decide_eq_decide]
        omega
      · rw [if_neg h, hbit, decide_eq_false (show ¬ (v : Int) = (u : Int) by omega)]
        simp
theorem DirtySets : counterfoillaw10_DirtySets.Pure := by
  intro m v n hwm hv hn
  obtain ⟨k, hk⟩ : ∃ k, 20000000001 ≤ k := ⟨20000000001, Nat.le_refl _⟩
  refine ⟨k + 1, ?_⟩
  have hw := wf_nonneg hwm.2.2
  unfold counterfoillaw10_DirtySets.f
  by_cases q1 : (m.length : Int) > 300
  · rw [if_pos q1, awake_eq]; rfl
  have hm : m.length ≤ 300 := by omega
  rw [if_neg q1, rright_eq m (by omega) (by omega), right_eq m (by omega) (by omega), has_eq m (by omega) hw v n (by omega), rhas_all m (by omega) hw v n (by omega)]
  simp only [Option.bind_some, bne_self_eq_false]
  rw [if_neg (by decide), counterfoillaw10_DirtySets.j0, if_neg (by decide), set_eq m hm v n (by omega), awake_eq]
  simp only [Option.bind_some]
  by_cases hr : rgt 0 m = true
  · rw [if_pos hr, if_pos hr, rlist_eq m hm hr (rgt_small hr hw) (by omega)]
    simp only [Option.bind_some]
    have la := list_len m
    rw [if_pos (by omega), of_eq _ (by rw [List.length_append, List.length_singleton]; omega) (by omega)]
    simp only [Option.bind_some]
    by_cases ho : okB v n
    · obtain ⟨v, rfl⟩ := Int.eq_ofNat_of_zero_le (show 0 ≤ v by have := ho.1; omega)
      obtain ⟨n, rfl⟩ := Int.eq_ofNat_of_zero_le ho.2.2.1
      have h1 := ho.1
      have h2 := ho.2.1
      have h4 := ho.2.2.2
      have hall : (listS m ++ [(⟨(v : Int), (n : Int)⟩ : S37)]).all mayS = true := by
        rw [List.all_append, list_may hr]
        simp [mayS]
        omega
      rw [if_pos ho, if_pos hall, Int.toNat_natCast, Int.toNat_natCast, mark_gath hr hw v n (by omega) (by omega)]
      have hlen := bitsTo_len (fun u => ((gath (listS m ++ [(⟨(v : Int), (n : Int)⟩ : S37)]) u : Nat) : Int)) 256
      have hrb := bitsTo_rgt (fun u => ((gath (listS m ++ [(⟨(v : Int), (n : Int)⟩ : S37)]) u : Nat) : Int)) rfl (fun u => by have := gath_lt (listS m ++ [(⟨(v : Int), (n : Int)⟩ : S37)]) u; show ((gath _ u : Nat) : Int) < _; omega) 256 (Nat.le_refl _)
      have hhas := bitsTo_has (fun u => ((gath (listS m ++ [(⟨(v : Int), (n : Int)⟩ : S37)]) u : Nat) : Int)) v n 256
      have hbit : (gath (listS m ++ [(⟨(v : Int), (n : Int)⟩ : S37)]) v).testBit n = true := by
        unfold gath
        rw [if_neg (by omega), sumBits_bit, decide_eq_true (show n < 32 by omega), Bool.true_and, named_append]
        show (_ || (decide ((v : Int) = (v : Int)) && decide ((n : Int) = (n : Int)) || false)) = true
        simp
      rw [Int.toNat_natCast, hbit, decide_eq_true (show v < 256 by omega)] at hhas
      have hnn : ∀ x ∈ bitsTo (fun u => ((gath (listS m ++ [(⟨(v : Int), (n : Int)⟩ : S37)]) u : Nat) : Int)) 256, 0 ≤ x.f1 := by
        intro x hx
        obtain ⟨u, _, rfl, _⟩ := bitsTo_mem _ 256 x hx
        show (0 : Int) ≤ ((gath _ u : Nat) : Int)
        omega
      generalize bitsTo (fun u => ((gath (listS m ++ [(⟨(v : Int), (n : Int)⟩ : S37)]) u : Nat) : Int)) 256 = z at *
      rw [equal_same z (by omega) (by omega), has_eq z (by omega) hnn _ _ (by omega), hrb, decide_eq_true ho, Int.toNat_natCast, hhas]
      rfl
    · have hall : ¬ (listS m ++ [(⟨v, n⟩ : S37)]).all mayS = true := by
        rw [List.all_append, list_may hr]
        simp [mayS]
        intro h1 h2 h3
        have : ¬ n < 32 := fun h4 => ho ⟨by omega, by omega, h3, h4⟩
        omega
      rw [if_neg ho, if_neg hall]
      rfl
  · rw [if_neg hr, if_neg hr]
    rfl
end Go.Proofs.Ytcigkejiompieaa.Pure
