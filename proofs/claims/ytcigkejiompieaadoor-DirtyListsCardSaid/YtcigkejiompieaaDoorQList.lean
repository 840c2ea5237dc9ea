/- The list of the marked blocks: the lowest bit by the library's table; which blocks of volumes there are. -/
import Derived.Test.YtcigkejiompieaaDoorPx0
import Derived.Test.YtcigkejiompieaaDoorPx6
import Derived.Test.YtcigkejiompieaaDoorPx8
import Derived.Test.YtcigkejiompieaaDoorPx9
import Derived.Test.YtcigkejiompieaaDoorQDirtyN
import Derived.Test.YtcigkejiompieaaDoorQPop
set_option linter.unusedVariables false
set_option linter.unusedSimpArgs false
namespace Go.Proofs.YtcigkejiompieaaDoor.Dirty
open Go.RowKit Go.Proofs.YtcigkejiompieaaDoor.P Go.Proofs.YtcigkejiompieaaDoorW.PrintWords Go.Proofs.YtcigkejiompieaaDoorW.PrintLast Go.Proofs.YtcigkejiompieaaDoorW.PrintMore

theorem low_clear (b z : Nat) : (2 ^ (b + 1) * z + 2 ^ b) &&& (2 ^ (b + 1) * z + 2 ^ b - 1) = 2 ^ (b + 1) * z := by
  have h1 : 2 ^ b < 2 ^ (b + 1) := Nat.pow_lt_pow_right (by omega) (by omega)
  have h0 : 0 < 2 ^ b := Nat.two_pow_pos b
  have e : 2 ^ (b + 1) * z + 2 ^ b - 1 = 2 ^ (b + 1) * z + (2 ^ b - 1) := by omega
  rw [e]
  apply Nat.eq_of_testBit_eq
  intro i
  have e2 : 2 ^ (b + 1) * z = 2 ^ (b + 1) * z + 0 := by omega
  rw [Nat.testBit_and, Nat.testBit_two_pow_mul_add _ h1, Nat.testBit_two_pow_mul_add _ (by omega)]
  rw [e2, Nat.testBit_two_pow_mul_add _ (by omega)]
  by_cases hi : i < b + 1
  · rw [if_pos hi, if_pos hi, if_pos hi, Nat.zero_testBit, Nat.testBit_two_pow, Nat.testBit_two_pow_sub_one]
    by_cases hb : b = i
    · rw [decide_eq_true hb, decide_eq_false (by omega)]; rfl
    · rw [decide_eq_false hb]; rfl
  · rw [if_neg hi, if_neg hi, if_neg hi, Bool.and_self]
theorem low_only (b z : Nat) (hz : 2 ^ (b + 1) * z + 2 ^ b < 4294967296) (hb : b < 32) : (2 ^ (b + 1) * z + 2 ^ b) &&& (18446744073709551616 - (2 ^ (b + 1) * z + 2 ^ b)) = 2 ^ b := by
  have h1 : 2 ^ b < 2 ^ (b + 1) := Nat.pow_lt_pow_right (by omega) (by omega)
  have h0 : 0 < 2 ^ b := Nat.two_pow_pos b
  have hp : 2 ^ (b + 1) * 2 ^ (63 - b) = 18446744073709551616 := by
    rw [← Nat.pow_add, show b + 1 + (63 - b) = 64 by omega]
  have h2 : 2 ^ (b + 1) = 2 * 2 ^ b := by rw [Nat.pow_succ]; omega
  have hzz : z < 2 ^ (63 - b) := by
    rcases Nat.lt_or_ge z (2 ^ (63 - b)) with h | h
    · exact h
    · exfalso
      have := Nat.mul_le_mul_left (2 ^ (b + 1)) h
      omega
  have e : 18446744073709551616 - (2 ^ (b + 1) * z + 2 ^ b) = 2 ^ (b + 1) * (2 ^ (63 - b) - (z + 1)) + 2 ^ b := by
    have e3 : 2 ^ (b + 1) * (2 ^ (63 - b) - (z + 1)) = 2 ^ (b + 1) * 2 ^ (63 - b) - 2 ^ (b + 1) * (z + 1) := Nat.mul_sub _ _ _
    have e4 : 2 ^ (b + 1) * (z + 1) = 2 ^ (b + 1) * z + 2 ^ (b + 1) := Nat.mul_succ _ _
    rw [e3, e4, hp]
    omega
  rw [e]
  apply Nat.eq_of_testBit_eq
  intro i
  rw [Nat.testBit_and, Nat.testBit_two_pow_mul_add _ h1, Nat.testBit_two_pow_mul_add _ h1]
  by_cases hi : i < b + 1
  · rw [if_pos hi, if_pos hi, Bool.and_self]
  · have hbi : decide (b = i) = false := decide_eq_false (by omega)
    rw [if_neg hi, if_neg hi, Nat.testBit_two_pow_sub_succ hzz, Nat.testBit_two_pow, hbi]
    cases z.testBit (i - (b + 1)) <;> simp
theorem tab_low : ∀ b : Nat, b < 32 → (2 ^ b * 285870213051353865 % 18446744073709551616 / 288230376151711744 < 64 ∧ trailTab.getD (2 ^ b * 285870213051353865 % 18446744073709551616 / 288230376151711744) 0 = ((b : Nat) : Int)) := by decide +kernel
theorem tz_eq (b z : Nat) (hz : 2 ^ (b + 1) * z + 2 ^ b < 4294967296) (hb : b < 32) : bits_TrailingZeros64.f ((2 ^ (b + 1) * z + 2 ^ b : Nat) : Int) = some (b : Int) := by
  have h0 : 0 < 2 ^ b := Nat.two_pow_pos b
  have hl := low_only b z hz hb
  obtain ⟨t1, t2⟩ := tab_low b hb
  have hp : 2 ^ b ≤ 2 ^ 32 := Nat.pow_le_pow_right (by omega) (by omega)
  generalize 2 ^ (b + 1) * z + 2 ^ b = y at hz hl h0
  unfold bits_TrailingZeros64.f
  have hy : y ≠ 0 := by
    intro h
    rw [h] at hl
    simp at hl
    omega
  have e1 : IntKind.u64.wrap (-(y : Int)) = ((18446744073709551616 - y : Nat) : Int) := by rw [IntKind.wrap_u64]; omega
  have ei : tzIdx (y : Int) = ((2 ^ b * 285870213051353865 % 18446744073709551616 / 288230376151711744 : Nat) : Int) := by
    unfold tzIdx
    rw [e1, bits_and64 _ _ (by omega) (by omega), hl, IntKind.wrap_u64]
    generalize 2 ^ b = q
    omega
  rw [if_neg (by omega), ei, if_pos (by omega), Int.toNat_natCast, t2]
theorem list_l1d (m : List S48) (hm : m.length ≤ 300) (i : Nat) (v f1 : Int) (x : Nat) (hx : x < 4294967296) (R : List S33) (K : Nat) (full : List S33) (hfl : full.length ≤ 1000000)
    (HR : ∀ k, K ≤ k → dirty_List.l0 k full m (m.length : Int) (wrap64 ((i : Int) + 1)) = some R) (d : Nat) :
    ∀ (b k : Nat) (acc : List S33), b + d = 32 → K + d + 1 ≤ k → acc ++ marks v (fun n => x.testBit n) b d = full → dirty_List.l1 k acc ((x - x % 2 ^ b : Nat) : Int) m (m.length : Int) (i : Int) v f1 = some R := by
  induction d with
  | zero =>
    intro b k acc hb hk hf
    obtain ⟨k, rfl⟩ : ∃ j, k = j + 1 := ⟨k - 1, by omega⟩
    have e : x % 2 ^ b = x := Nat.mod_eq_of_lt (by rw [show b = 32 by omega]; exact hx)
    have hf2 : acc = full := by rw [← hf]; unfold marks; rw [List.append_nil]
    rw [e, dirty_List.l1, if_pos (by omega), hf2]
    exact HR k (by omega)
  | succ d ih =>
    intro b k acc hb hk hf
    obtain ⟨k, rfl⟩ : ∃ j, k = j + 1 := ⟨k - 1, by omega⟩
    have hs : x % 2 ^ (b + 1) = x % 2 ^ b + 2 ^ b * (x.testBit b).toNat := by
      rw [Nat.mod_pow_succ, Nat.testBit_eq_decide_div_mod_eq]
      congr 2
      rcases Nat.mod_two_eq_zero_or_one (x / 2 ^ b) with h | h <;> rw [h] <;> rfl
    have h0 : 0 < 2 ^ b := Nat.two_pow_pos b
    have hd := Nat.mod_add_div x (2 ^ (b + 1))
    have hle := Nat.mod_le x (2 ^ b)
    cases hbit : x.testBit b with
    | false =>
      rw [hbit] at hs
      have e : x % 2 ^ (b + 1) = x % 2 ^ b := by simpa using hs
      rw [← e]
      refine ih (b + 1) (k + 1) acc (by omega) (by omega) ?_
      rw [← hf]
      show _ = acc ++ ((if x.testBit b = true then _ else []) ++ _)
      rw [hbit]
      rfl
    | true =>
      rw [hbit] at hs
      have e : x % 2 ^ (b + 1) = x % 2 ^ b + 2 ^ b := by simpa using hs
      have ey : x - x % 2 ^ b = 2 ^ (b + 1) * (x / 2 ^ (b + 1)) + 2 ^ b := by omega
      have ez : x - x % 2 ^ (b + 1) = 2 ^ (b + 1) * (x / 2 ^ (b + 1)) := by omega
      have hla : acc.length ≤ full.length := by rw [← hf, List.length_append]; omega
      have H := ih (b + 1) k (acc ++ [(⟨v, (b : Int)⟩ : S33)]) (by omega) (by omega) (by
        rw [← hf, List.append_assoc]
        congr 1
        show _ = (if x.testBit b = true then _ else []) ++ _
        rw [hbit]
        rfl)
      rw [ez] at H
      have hlt : 2 ^ (b + 1) * (x / 2 ^ (b + 1)) + 2 ^ b < 4294967296 := by omega
      have ht := tz_eq b (x / 2 ^ (b + 1)) hlt (by omega)
      have hc := low_clear b (x / 2 ^ (b + 1))
      rw [ey]
      have hy : 0 < 2 ^ (b + 1) * (x / 2 ^ (b + 1)) + 2 ^ b := by omega
      generalize 2 ^ (b + 1) * (x / 2 ^ (b + 1)) + 2 ^ b = y at hlt ht hc hy ⊢
      rw [dirty_List.l1, if_neg (by omega), ht]
      simp only [Option.bind_some]
      have e1 : IntKind.u64.wrap ((y : Int) - 1) = ((y - 1 : Nat) : Int) := by rw [IntKind.wrap_u64]; omega
      rw [if_pos (by omega), e1, bits_and64 _ _ (by omega) (by omega), hc]
      exact H
theorem list_l0d (m : List S48) (hm : m.length ≤ 300) (hs : small m) (d : Nat) : ∀ (i k : Nat) (acc : List S33), i + d = m.length → 40 * d < k → acc.length ≤ 32 * i → dirty_List.l0 k acc m (m.length : Int) (i : Int) = some (acc ++ listS (m.drop i)) := by
  induction d with
  | zero =>
    intro i k acc hi hk ha
    obtain ⟨k, rfl⟩ : ∃ j, k = j + 1 := ⟨k - 1, by omega⟩
    rw [dirty_List.l0, if_neg (by omega), List.drop_eq_nil_of_le (by omega)]
    simp [listS]
  | succ d ih =>
    intro i k acc hi hk ha
    obtain ⟨k, rfl⟩ : ∃ j, k = j + 1 := ⟨k - 1, by omega⟩
    have hl : i < m.length := by omega
    have hb := hs _ (List.getElem_mem hl)
    have h2 := marks_len (m[i]).f0 (fun n => (m[i]).f1.toNat.testBit n) 32 0
    rw [dirty_List.l0, if_pos (by omega), if_pos (by omega), if_pos (by omega), rd63 m i hl]
    have H := list_l1d m hm i (m[i]).f0 (m[i]).f1 (m[i]).f1.toNat (by omega) (acc ++ listS (m.drop i)) (40 * d + 1) (acc ++ marks (m[i]).f0 (fun n => (m[i]).f1.toNat.testBit n) 0 32) (by rw [List.length_append]; omega) (fun k hk => by
      rw [w64 (by omega) (by omega), show (i : Int) + 1 = ((i + 1 : Nat) : Int) from by omega, ih (i + 1) k _ (by omega) (by omega) (by rw [List.length_append]; omega), List.drop_eq_getElem_cons hl, List.append_assoc]
      rfl) 32 0 k acc (by omega) (by omega) rfl
    rw [Nat.pow_zero, Nat.mod_one, Nat.sub_zero, show (((m[i]).f1.toNat : Nat) : Int) = (m[i]).f1 from by omega] at H
    exact H
theorem dlist_eq (m : List S48) (hm : m.length ≤ 300) (hw : ∀ x ∈ m, 0 ≤ x.f1) {k : Nat} (hk : 20000 ≤ k) : dirty_List.f k m = some (if rgt 0 m = true then listS m else []) := by
  unfold dirty_List.f
  rw [right_eq m (by omega) (by omega)]
  simp only [Option.bind_some]
  by_cases hr : rgt 0 m = true
  · have := list_l0d m hm (rgt_small hr hw) m.length 0 k [] (by omega) (by omega) (Nat.zero_le _)
    rw [List.drop_zero] at this
    rw [if_pos hr, if_pos hr]
    exact this
  · rw [if_neg hr, if_neg hr]
theorem rlist_bad (m : List S48) (hm : m.length ≤ 300) (hr : ¬ rgt 0 m = true) {k : Nat} (hk : 1000 ≤ k) : counterfoilref10_List.f k m = some [] := by
  obtain ⟨k, rfl⟩ : ∃ j, k = j + 2 := ⟨k - 2, by omega⟩
  unfold counterfoilref10_List.f
  rw [counterfoilref10_List.l0]
  by_cases h : (0 : Int) < (m.length : Int)
  · rw [if_pos h, rright_eq m (by omega) (by omega)]
    simp only [Option.bind_some]
    first
      | (rw [counterfoilref10_List.j1, if_neg hr])
      | (rw [if_neg hr])
      | (cases hq : rgt 0 m with
         | true => exact absurd hq hr
         | false => rfl)
  · rw [if_neg h]
    first | rfl | (rw [counterfoilref10_List.j1]; rfl)
theorem same_l0 (m : List S33) (hm : m.length ≤ 1000000) (d : Nat) : ∀ (i k : Nat), i + d = m.length → d < k → counterfoilref08_SameMarks.l0 k m m (i : Int) = some true := by
  induction d with
  | zero =>
    intro i k hi hk
    obtain ⟨k, rfl⟩ : ∃ j, k = j + 1 := ⟨k - 1, by omega⟩
    rw [counterfoilref08_SameMarks.l0, if_neg (by omega)]
  | succ d ih =>
    intro i k hi hk
    obtain ⟨k, rfl⟩ : ∃ j, k = j + 1 := ⟨k - 1, by omega⟩
    rw [counterfoilref08_SameMarks.l0, if_pos (by omega), if_pos (by omega), if_pos (by omega), if_neg (by simp), w64 (by omega) (by omega), show (i : Int) + 1 = ((i + 1 : Nat) : Int) from by omega]
    exact ih (i + 1) k (by omega) (by omega)
theorem same_eq (m : List S33) (hm : m.length ≤ 1000000) {k : Nat} (hk : m.length < k) : counterfoilref08_SameMarks.f k m m = some true := by
  unfold counterfoilref08_SameMarks.f
  rw [if_pos rfl]
  exact same_l0 m hm m.length 0 k (by omega) hk
theorem marks_pc (v : Int) (x d : Nat) : ∀ b, (marks v (fun n => x.testBit n) b d).length + pc b x = pc (b + d) x := by
  induction d with
  | zero => intro b; show 0 + pc b x = pc b x; omega
  | succ d ih =>
    intro b
    have h := ih (b + 1)
    have e : pc (b + 1) x = pc b x + if x.testBit b = true then 1 else 0 := rfl
    rw [show b + (d + 1) = b + 1 + d by omega, ← h, e]
    show ((if x.testBit b = true then [(⟨v, (b : Int)⟩ : S33)] else []) ++ marks v (fun n => x.testBit n) (b + 1) d).length + _ = _
    rw [List.length_append]
    cases x.testBit b <;> simp <;> omega
theorem list_cnt (m : List S48) : (listS m).length = cntS m := by
  induction m with
  | nil => rfl
  | cons b m ih =>
    have h := marks_pc b.f0 b.f1.toNat 32 0
    have e0 : pc 0 b.f1.toNat = 0 := rfl
    rw [e0, Nat.add_zero, Nat.zero_add] at h
    show (marks b.f0 (fun n => b.f1.toNat.testBit n) 0 32 ++ listS m).length = pc 32 b.f1.toNat + cntS m
    rw [List.length_append, ih, h]
/-- Is there such a block? -/
def getB : List S40 → Int → Int → Bool
  | [], _, _ => false
  | x :: r, v, n => if x.f0 = v then decide (0 ≤ n ∧ n < x.f1.length) else getB r v n
theorem get_l0 (vs : List S40) (hv : vs.length ≤ 10) (hb : ∀ x ∈ vs, x.f1.length ≤ 100) (v n : Int) (d : Nat) : ∀ (i k : Nat), i + d = vs.length → d < k → ∃ s e, counterfoilref07_Get.l0 k vs v n (i : Int) = some (s, e) ∧ (e == 0) = getB (vs.drop i) v n := by
  induction d with
  | zero =>
    intro i k hi hk
    obtain ⟨k, rfl⟩ : ∃ j, k = j + 1 := ⟨k - 1, by omega⟩
    rw [counterfoilref07_Get.l0, if_neg (by omega), List.drop_eq_nil_of_le (by omega)]
    exact ⟨_, _, rfl, rfl⟩
  | succ d ih =>
    intro i k hi hk
    obtain ⟨k, rfl⟩ : ∃ j, k = j + 1 := ⟨k - 1, by omega⟩
    have hl : i < vs.length := by omega
    rw [counterfoilref07_Get.l0, if_pos (by omega), if_pos (by omega), rd76 vs i hl, List.drop_eq_getElem_cons hl]
    unfold getB
    by_cases h : (vs[i]).f0 = v
    · rw [if_pos h, if_pos h]
      by_cases h1 : n < 0
      · rw [if_pos h1, decide_eq_false (by omega)]; exact ⟨_, _, rfl, rfl⟩
      · rw [if_neg h1]
        by_cases h2 : n ≥ (((vs[i]).f1.length : Nat) : Int)
        · rw [if_pos h2, decide_eq_false (by omega)]; exact ⟨_, _, rfl, rfl⟩
        · rw [if_neg h2, if_pos (by omega), if_pos (by omega), decide_eq_true (by omega)]; exact ⟨_, _, rfl, rfl⟩
    · rw [if_neg h, if_neg h, w64 (by omega) (by omega), show (i : Int) + 1 = ((i + 1 : Nat) : Int) from by omega]
      exact ih (i + 1) k (by omega) (by omega)
theorem get_eq (vs : List S40) (hv : vs.length ≤ 10) (hb : ∀ x ∈ vs, x.f1.length ≤ 100) (v n : Int) {k : Nat} (hk : 100 ≤ k) : ∃ s e, counterfoilref07_Get.f k vs v n = some (s, e) ∧ (e == 0) = getB vs v n := by
  obtain ⟨s, e, h1, h2⟩ := get_l0 vs hv hb v n vs.length 0 k (by omega) (by omega)
  rw [List.drop_zero] at h2
  exact ⟨s, e, h1, h2⟩
theorem getB_above {vs : List S40} : ∀ {last : Int} (v n : Int), rgtV last vs = true → v ≤ last → 0 ≤ last → getB vs v n = false := by
  intro last v n h hv h0
  induction vs with
  | nil => rfl
  | cons x vs ih =>
    have h1 := rgtV_mem h h0 x List.mem_cons_self
    rw [rgtV, Bool.and_eq_true, Bool.and_eq_true] at h
    unfold getB
    rw [if_neg (by omega)]
    have hlow : ∀ {last last2 : Int} {vs : List S40}, rgtV last2 vs = true → last ≤ last2 → rgtV last vs = true := by
      intro last last2 vs h hl
      cases vs with
      | nil => rfl
      | cons y ys =>
        rw [rgtV, Bool.and_eq_true, Bool.and_eq_true, decide_eq_true_eq] at h ⊢
        exact ⟨⟨⟨by omega, h.1.1.2⟩, h.1.2⟩, h.2⟩
    exact ih (hlow h.2 (by omega))
theorem getB_in {vs : List S40} : ∀ {last : Int} (v n : Nat), rgtV last vs = true → 0 ≤ last → getB vs (v : Int) (n : Int) = inV vs v n := by
  induction vs with
  | nil => intro _ _ _ _ _; rfl
  | cons x vs ih =>
    intro last v n h h0
    have h1 := rgtV_mem h h0 x List.mem_cons_self
    rw [rgtV, Bool.and_eq_true, Bool.and_eq_true] at h
    unfold getB
    show _ = (decide (x.f0 = (v : Int)) && decide (n < x.f1.length) || inV vs v n)
    rw [← ih v n h.2 (by omega)]
    by_cases hx : x.f0 = (v : Int)
    · rw [if_pos hx, decide_eq_true hx, getB_above (v : Int) (n : Int) h.2 (by omega) (by omega), Bool.or_false, Bool.true_and]
      rw [decide_eq_decide]
      omega
    · rw [if_neg hx, decide_eq_false hx]
      rfl
theorem marks_all (v : Int) (p : Nat → Bool) (q : S33 → Bool) (d : Nat) : ∀ b, (marks v p b d).all q = true ↔ ∀ n, b ≤ n → n < b + d → p n = true → q ⟨v, (n : Int)⟩ = true := by
  induction d with
  | zero =>
    intro b
    constructor
    · intro _ n h1 h2; omega
    · intro _; rfl
  | succ d ih =>
    intro b
    show ((if p b = true then [(⟨v, (b : Int)⟩ : S33)] else []) ++ marks v p (b + 1) d).all q = true ↔ _
    rw [List.all_append, Bool.and_eq_true, ih (b + 1)]
    constructor
    · rintro ⟨h1, h2⟩ n hn hn2 hp
      by_cases hb : n = b
      · subst hb
        rw [if_pos hp] at h1
        simpa using h1
      · exact h2 n (by omega) (by omega) hp
    · intro h
      refine ⟨?_, fun n hn hn2 hp => h n (by omega) (by omega) hp⟩
      by_cases hp : p b = true
      · rw [if_pos hp]
        simpa using h b (by omega) (by omega) hp
      · rw [if_neg hp]; rfl
theorem within_list (m : List S48) (vs : List S40) (hr : rgt 0 m = true) (hv : rgtV 0 vs = true) : within m vs = (listS m).all fun x => getB vs x.f0 x.f1 := by
  rw [Bool.eq_iff_iff]
  unfold within listS
  rw [List.all_flatMap, List.all_eq_true, List.all_eq_true]
  have key : ∀ b ∈ m, (((List.range 32).all fun n => !(b.f1.toNat.testBit n) || inV vs b.f0.toNat n) = true ↔ ((marks b.f0 (fun n => b.f1.toNat.testBit n) 0 32).all fun x => getB vs x.f0 x.f1) = true) := by
    intro b hb
    have h1 := rgt_mem hr (Int.le_refl _) b hb
    rw [marks_all, List.all_eq_true]
    have e : ∀ n : Nat, getB vs b.f0 (n : Int) = inV vs b.f0.toNat n := fun n => by
      have := getB_in (vs := vs) b.f0.toNat n hv (Int.le_refl _)
      rw [show ((b.f0.toNat : Nat) : Int) = b.f0 from by omega] at this
      exact this
    constructor
    · intro h n _ hn hp
      have := h n (List.mem_range.2 (by omega))
      rw [show (b.f1.toNat.testBit n) = true from hp] at this
      show getB vs b.f0 (n : Int) = true
      rw [e]
      simpa using this
    · intro h n hn
      have hn2 := List.mem_range.1 hn
      cases hp : b.f1.toNat.testBit n with
      | false => rfl
      | true =>
        have := h n (by omega) (by omega) hp
        have h3 : getB vs b.f0 (n : Int) = true := this
        rw [e] at h3
        rw [h3]
        rfl
  exact ⟨fun h b hb => (key b hb).1 (h b hb), fun h b hb => (key b hb).2 (h b hb)⟩
end Go.Proofs.YtcigkejiompieaaDoor.Dirty
