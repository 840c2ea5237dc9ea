/- For all two lists of at most 300 masks, all volumes and blocks, DirtyMore answers true: what is joined has what either has, and nothing else. -/
import Derived.Test.YtcigkejiompieaaPx0
import Derived.Test.YtcigkejiompieaaPx2
import Derived.Test.YtcigkejiompieaaPx3
import Derived.Test.YtcigkejiompieaaPx7
import Derived.Test.YtcigkejiompieaaPx8
import Derived.Test.YtcigkejiompieaaPop
namespace Go.Proofs.Ytcigkejiompieaa.Pure
open Go.RowKit Go.Proofs.Ytcigkejiompieaa.P Go.Proofs.Ytcigkejiompieaa.Dirty Go.Proofs.YtcigkejiompieaaW.PrintWords Go.Proofs.YtcigkejiompieaaW.PrintLast Go.Proofs.YtcigkejiompieaaW.PrintMore
set_option linter.unusedVariables false
set_option linter.unusedSimpArgs false

theorem wf_nonneg {m : List S63} (h : ∀ y ∈ m, (Lit.int .i64 y.f0).wf = true ∧ (Lit.int .u64 y.f1).wf = true) : ∀ b ∈ m, 0 ≤ b.f1 := by
  intro b hb
  have := (h b hb).2
  simp [Lit.wf, IntKind.min, IntKind.max, IntKind.signed, IntKind.bits] at this
  omega
theorem join_eq (a b : List S63) (ha : a.length ≤ 300) (hb : b.length ≤ 300) {k : Nat} (hk : 1000 ≤ k) : dirty_Join.f k a b = some (if (rgt 0 a && rgt 0 b) = true then (bitsTo (sprL [a, b] 2) 256, 0) else ([], 1)) := by
  unfold dirty_Join.f
  rw [right_eq a (by omega) (by omega), right_eq b (by omega) (by omega)]
  cases h1 : rgt 0 a with
  | false => rfl
  | true =>
    cases h2 : rgt 0 b with
    | false => rfl
    | true =>
      simp only [Option.bind_some, if_true, Bool.and_self]
      rw [if_pos ⟨rgt_inB h1, rgt_inB h2⟩]
theorem cnt_two (a b : List S63) (j : Nat) : cntS (bitsTo (fun v => ((orN (orN (fun _ => 0) a) b v : Nat) : Int)) j) ≤ cntS a + cntS b := by
  have h1 := sumV_orN b j (orN (fun _ => 0) a)
  have h2 := sumV_orN a j (fun _ => 0)
  rw [sumV_zero] at h2
  rw [cntS_bits]
  omega
theorem fin_more (x y : Bool) (cz ca cb : Int) (g : Int → Int → Int) (hg : cz ≤ g ca cb) :
    ((some (x || y)).bind fun t210 => (some x).bind fun t211 => (if t211 = true then (if (t210 == true) = true then ((some cz).bind fun t212 => ((some ca).bind fun t213 => ((some cb).bind fun t214 => (if t212 ≤ g t213 t214 then ((some true).bind fun t215 => (if t215 = true then ((some true).bind fun t216 => (some t216)) else (some false))) else (some false))))) else (some false)) else ((some y).bind fun t217 => (if (t210 == t217) = true then ((some cz).bind fun t218 => ((some ca).bind fun t219 => ((some cb).bind fun t220 => (if t218 ≤ g t219 t220 then ((some true).bind fun t221 => (if t221 = true then ((some true).bind fun t222 => (some t222)) else (some false))) else (some false))))) else (some false))))) = some true := by
  cases x <;> cases y <;> simp [hg]
theorem DirtyMore : counterfoillaw10_DirtyMore.Pure := by
  intro a b v n hwa hwb hv hn
  obtain ⟨k, hk⟩ : ∃ k, 20000000001 ≤ k := ⟨20000000001, Nat.le_refl _⟩
  refine ⟨k + 1, ?_⟩
  have wa := wf_nonneg hwa.2.2
  have wb := wf_nonneg hwb.2.2
  unfold counterfoillaw10_DirtyMore.f
  by_cases q1 : (a.length : Int) > 300
  · rw [if_pos q1, counterfoillaw10_DirtyMore.j0, if_pos rfl, awake_eq]; rfl
  by_cases q2 : (b.length : Int) > 300
  · rw [if_neg q1, counterfoillaw10_DirtyMore.j0, decide_eq_true q2, if_pos rfl, awake_eq]; rfl
  have ha : a.length ≤ 300 := by omega
  have hb : b.length ≤ 300 := by omega
  rw [if_neg q1, counterfoillaw10_DirtyMore.j0, decide_eq_false q2, if_neg (by decide), join_eq a b ha hb (by omega), awake_eq]
  simp only [Option.bind_some]
  by_cases hr : (rgt 0 a && rgt 0 b) = true
  · have hr2 := hr
    rw [Bool.and_eq_true] at hr2
    have sa := rgt_small hr2.1 wa
    have sb := rgt_small hr2.2 wb
    rw [if_pos hr, if_pos rfl]
    have e : sprL [a, b] 2 = fun v => ((orN (orN (fun _ => 0) a) b v : Nat) : Int) := by
      show orAll (orAll zeros a) b = _
      rw [zeros_nat, orAll_nat a sa _ (fun _ => by omega), orAll_nat b sb _ (orN_lt a sa _ (fun _ => by omega))]
    have hlt := orN_lt b sb _ (orN_lt a sa (fun _ => 0) (fun _ => by omega))
    have hbit : ∀ v n, (orN (orN (fun _ => 0) a) b v).testBit n = (hasB a v n || hasB b v n) := by
      intro v n
      rw [orN_bit b sb, orN_bit a sa, Nat.zero_testBit, Bool.false_or]
    have hcz := cnt_two a b 256
    rw [e]
    generalize orN (orN (fun _ => 0) a) b = M at *
    have hlen := bitsTo_len (fun v => ((M v : Nat) : Int)) 256
    have h0 : M 0 = 0 := eq_of_bits (hlt 0) (by omega) fun i _ => by rw [hbit, has_zero hr2.1, has_zero hr2.2, Nat.zero_testBit]; rfl
    have hrz := bitsTo_rgt (fun v => ((M v : Nat) : Int)) (by show ((M 0 : Nat) : Int) = 0; rw [h0]; rfl) (fun u => by have := hlt u; show ((M u : Nat) : Int) < _; omega) 256 (Nat.le_refl _)
    have hnn : ∀ x ∈ bitsTo (fun v => ((M v : Nat) : Int)) 256, 0 ≤ x.f1 := by
      intro x hx
      obtain ⟨u, _, rfl, _⟩ := bitsTo_mem _ 256 x hx
      show (0 : Int) ≤ ((M u : Nat) : Int)
      omega
    have hh : (decide (okB v n) && hasI (bitsTo (fun v => ((M v : Nat) : Int)) 256) v n.toNat) = ((decide (okB v n) && hasI a v n.toNat) || (decide (okB v n) && hasI b v n.toNat)) := by
      by_cases ho : okB v n
      · obtain ⟨v, rfl⟩ := Int.eq_ofNat_of_zero_le (show 0 ≤ v by have := ho.1; omega)
        have h2 := ho.2.1
        have := bitsTo_has (fun v => ((M v : Nat) : Int)) v n.toNat 256
        rw [Int.toNat_natCast, hbit, decide_eq_true (show v < 256 by omega), Bool.true_and] at this
        rw [decide_eq_true ho, Bool.true_and, Bool.true_and, Bool.true_and, this]
        rfl
      · rw [decide_eq_false ho]; rfl
    have ca := cntS_le a
    have cb := cntS_le b
    generalize bitsTo (fun v => ((M v : Nat) : Int)) 256 = z at *
    have hle : ((cntS z : Nat) : Int) ≤ wrap64 (((cntS a : Nat) : Int) + ((cntS b : Nat) : Int)) := by
      rw [w64 (by omega) (by omega)]
      omega
    have cz : dirty_Count.f k z = some ((cntS z : Nat) : Int) := by rw [count_eq z (by omega) hnn (by omega), if_pos hrz]
    have ca2 : dirty_Count.f k a = some ((cntS a : Nat) : Int) := by rw [count_eq a (by omega) wa (by omega), if_pos hr2.1]
    have cb2 : dirty_Count.f k b = some ((cntS b : Nat) : Int) := by rw [count_eq b (by omega) wb (by omega), if_pos hr2.2]
    rw [has_eq z (by omega) hnn v n (by omega), has_eq a (by omega) wa v n (by omega), has_eq b (by omega) wb v n (by omega), cz, ca2, cb2, right_eq z (by omega) (by omega), hrz, hr2.1, hr2.2, Bool.true_and, Bool.true_and, Bool.true_and, hh]
    generalize (decide (okB v n) && hasI a v n.toNat) = x
    generalize (decide (okB v n) && hasI b v n.toNat) = y
    exact fin_more x y _ _ _ (fun p q => wrap64 (p + q)) hle
  · rw [if_neg hr]; rfl
end Go.Proofs.Ytcigkejiompieaa.Pure
