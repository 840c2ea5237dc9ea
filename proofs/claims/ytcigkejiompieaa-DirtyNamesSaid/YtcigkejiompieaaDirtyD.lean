/- What the document gathers of marks: Of; Equal of the same. -/
import Derived.Test.YtcigkejiompieaaPx0
import Derived.Test.YtcigkejiompieaaPx2
import Derived.Test.YtcigkejiompieaaPx5
import Derived.Test.YtcigkejiompieaaPx6
import Derived.Test.YtcigkejiompieaaDirtyC
set_option linter.unusedVariables false
set_option linter.unusedSimpArgs false
namespace Go.Proofs.Ytcigkejiompieaa.Dirty
open Go.RowKit Go.Proofs.Ytcigkejiompieaa.P Go.Proofs.YtcigkejiompieaaW.PrintWords Go.Proofs.YtcigkejiompieaaW.PrintLast Go.Proofs.YtcigkejiompieaaW.PrintMore

theorem rd37 (m : List S37) (i : Nat) (h : i < m.length) : rd_T37 m (i : Int) = m[i] := by
  unfold rd_T37
  rw [Int.toNat_natCast, List.getD_eq_getElem?_getD, List.getElem?_eq_getElem h]
  rfl
def mayS (x : S37) : Bool := decide (0 < x.f0 ∧ x.f0 < 256 ∧ 0 ≤ x.f1 ∧ x.f1 < 32)
theorem may_eq (x : S37) : counterfoilref10_May.f x.f0 x.f1 = some (mayS x) := by
  unfold counterfoilref10_May.f mayS
  by_cases h1 : x.f0 > 0
  · rw [if_pos h1]
    by_cases h2 : x.f0 < 256
    · rw [if_pos h2]
      by_cases h3 : x.f1 ≥ 0
      · rw [if_pos h3]
        congr 1
        rw [decide_eq_decide]
        exact ⟨fun h => ⟨h1, h2, h3, h⟩, fun h => h.2.2.2⟩
      · rw [if_neg h3, decide_eq_false (fun h => h3 h.2.2.1)]
    · rw [if_neg h2, decide_eq_false (fun h => h2 h.2.1)]
  · rw [if_neg h1, decide_eq_false (fun h => h1 h.1)]
/-- Is a block of a volume named? -/
def named (l : List S37) (v b : Nat) : Bool := l.any fun x => decide (x.f0 = (v : Int)) && decide (x.f1 = (b : Int))
/-- The masks of marks. -/
def gath (l : List S37) (v : Nat) : Nat := if v = 0 then 0 else sumBits (fun b => named l v b) 32
theorem gath_lt (l : List S37) (v : Nat) : gath l v < 4294967296 := by
  unfold gath
  split
  · omega
  · exact sumBits_lt _ 32
theorem of_l3 (l : List S37) (hl : l.length ≤ 1000000) (acc : List S63) (v b : Nat) (hb : b < 32) (R : List S63 × Bool) (K : Nat) (hK : 100 ≤ K)
    (HR : ∀ k, K ≤ k → counterfoilref10_Of.l2 k l acc (v : Int) ((sumBits (fun b => named l v b) (b + 1) : Nat) : Int) ((b + 1 : Nat) : Int) = some R) (d : Nat) :
    ∀ (i k : Nat), i + d = l.length → K + d + 1 ≤ k → named (l.drop i) v b = named l v b → counterfoilref10_Of.l3 k l acc (v : Int) ((sumBits (fun b => named l v b) b : Nat) : Int) (b : Int) (i : Int) = some R := by
  have hlt := sumBits_lt (fun b => named l v b) b
  have hlt2 : 2 ^ b ≤ 2 ^ 32 := Nat.pow_le_pow_right (by omega) (by omega)
  have e1 : wrap64 ((b : Int) + 1) = ((b + 1 : Nat) : Int) := by rw [w64 (by omega) (by omega)]; omega
  induction d with
  | zero =>
    intro i k hi hk hn
    obtain ⟨k, rfl⟩ : ∃ j, k = j + 1 := ⟨k - 1, by omega⟩
    rw [List.drop_eq_nil_of_le (by omega)] at hn
    have hn' : named l v b = false := by rw [← hn]; rfl
    have hs : sumBits (fun b => named l v b) (b + 1) = sumBits (fun b => named l v b) b := by
      rw [sumBits, if_neg (by rw [hn']; decide), Nat.add_zero]
    rw [hs] at HR
    rw [counterfoilref10_Of.l3, if_neg (by omega), e1]
    exact HR k (by omega)
  | succ d ih =>
    intro i k hi hk hn
    obtain ⟨k, rfl⟩ : ∃ j, k = j + 1 := ⟨k - 1, by omega⟩
    have hli : i < l.length := by omega
    have e2 : wrap64 ((i : Int) + 1) = ((i + 1 : Nat) : Int) := by rw [w64 (by omega) (by omega)]; omega
    rw [List.drop_eq_getElem_cons hli, show named (l[i] :: l.drop (i + 1)) v b = ((decide ((l[i]).f0 = (v : Int)) && decide ((l[i]).f1 = (b : Int))) || named (l.drop (i + 1)) v b) from rfl] at hn
    rw [counterfoilref10_Of.l3, if_pos (by omega), if_pos (by omega), rd37 l i hli, e2]
    by_cases h1 : (l[i]).f0 = (v : Int)
    · rw [if_pos h1]
      by_cases h2 : (l[i]).f1 = (b : Int)
      · rw [if_pos h2, power_eq b (by omega) (by omega)]
        simp only [Option.bind_some]
        rw [decide_eq_true h1, decide_eq_true h2, Bool.true_and, Bool.true_or] at hn
        have hs : sumBits (fun b => named l v b) (b + 1) = sumBits (fun b => named l v b) b + 2 ^ b := by
          rw [sumBits, if_pos hn.symm]
        rw [hs] at HR
        have e3 : IntKind.u64.wrap (((sumBits (fun b => named l v b) b : Nat) : Int) + ((2 ^ b : Nat) : Int)) = ((sumBits (fun b => named l v b) b + 2 ^ b : Nat) : Int) := by
          rw [IntKind.wrap_u64]
          generalize sumBits (fun b => named l v b) b = x at hlt ⊢
          generalize 2 ^ b = y at hlt hlt2 ⊢
          omega
        rw [e3, e1]
        exact HR k (by omega)
      · rw [if_neg h2]
        rw [decide_eq_false h2, Bool.and_false, Bool.false_or] at hn
        exact ih (i + 1) k (by omega) (by omega) hn
    · rw [if_neg h1]
      rw [decide_eq_false h1, Bool.false_and, Bool.false_or] at hn
      exact ih (i + 1) k (by omega) (by omega) hn
theorem of_l2 (l : List S37) (hl : l.length ≤ 1000000) (v : Nat) (hv : 1 ≤ v ∧ v < 256) (acc next : List S63) (hn : next = if gath l v = 0 then acc else acc ++ [(⟨(v : Int), ((gath l v : Nat) : Int)⟩ : S63)]) (ha : acc.length ≤ 256) (R : List S63 × Bool) (K : Nat) (hK : 100 ≤ K)
    (HR : ∀ k, K ≤ k → counterfoilref10_Of.l1 k l next ((v + 1 : Nat) : Int) = some R) (d : Nat) :
    ∀ (b k : Nat), b + d = 32 → K + d * (l.length + 2) + 1 ≤ k → counterfoilref10_Of.l2 k l acc (v : Int) ((sumBits (fun b => named l v b) b : Nat) : Int) (b : Int) = some R := by
  have hg : gath l v = sumBits (fun b => named l v b) 32 := if_neg (by omega)
  have e1 : wrap64 ((v : Int) + 1) = ((v + 1 : Nat) : Int) := by rw [w64 (by omega) (by omega)]; omega
  induction d with
  | zero =>
    intro b k hb hk
    obtain ⟨k, rfl⟩ : ∃ j, k = j + 1 := ⟨k - 1, by omega⟩
    obtain rfl : b = 32 := by omega
    rw [← hg, counterfoilref10_Of.l2, if_neg (by omega), e1]
    by_cases h0 : gath l v = 0
    · rw [if_pos h0] at hn
      rw [if_neg (by omega), ← hn]
      exact HR k (by omega)
    · rw [if_neg h0] at hn
      rw [if_pos (by omega), if_pos (by omega), ← hn]
      exact HR k (by omega)
  | succ d ih =>
    intro b k hb hk
    obtain ⟨k, rfl⟩ : ∃ j, k = j + 1 := ⟨k - 1, by omega⟩
    rw [Nat.succ_mul] at hk
    rw [counterfoilref10_Of.l2, if_pos (by omega)]
    exact of_l3 l hl acc v b (by omega) R (K + d * (l.length + 2) + 1) (by omega) (fun k' hk' => ih (b + 1) k' (by omega) hk') l.length 0 k (by omega) (by omega) (by rw [List.drop_zero])
set_option maxRecDepth 100000 in
theorem of_l1 (l : List S37) (hl : l.length ≤ 1000000) (d : Nat) : ∀ (v k : Nat), v + d = 256 → 1 ≤ v → 200 + d * (32 * (l.length + 2) + 3) ≤ k →
    counterfoilref10_Of.l1 k l (bitsTo (fun v => ((gath l v : Nat) : Int)) v) (v : Int) = some (bitsTo (fun v => ((gath l v : Nat) : Int)) 256, true) := by
  induction d with
  | zero =>
    intro v k hv h1 hk
    obtain ⟨k, rfl⟩ : ∃ j, k = j + 1 := ⟨k - 1, by omega⟩
    obtain rfl : v = 256 := by omega
    rw [counterfoilref10_Of.l1, if_neg (by omega)]
  | succ d ih =>
    intro v k hv h1 hk
    obtain ⟨k, rfl⟩ : ∃ j, k = j + 1 := ⟨k - 1, by omega⟩
    rw [Nat.succ_mul] at hk
    have hlen := bitsTo_len (fun v => ((gath l v : Nat) : Int)) v
    rw [counterfoilref10_Of.l1, if_pos (by omega)]
    refine of_l2 l hl v ⟨h1, by omega⟩ _ (bitsTo (fun v => ((gath l v : Nat) : Int)) (v + 1)) ?_ (by omega) _ (200 + d * (32 * (l.length + 2) + 3)) (by omega) (fun k' hk' => ih (v + 1) k' (by omega) (by omega) hk') 32 0 k (by omega) (by omega)
    rw [bitsTo]
    by_cases h0 : gath l v = 0
    · rw [if_pos (by omega), if_pos h0]
    · rw [if_neg (by omega), if_neg h0]
set_option maxRecDepth 100000 in
theorem of_l0 (l : List S37) (hl : l.length ≤ 1000000) (d : Nat) : ∀ (i k : Nat), i + d = l.length → d + 300 + 256 * (32 * (l.length + 2) + 3) ≤ k →
    counterfoilref10_Of.l0 k l (i : Int) = some (if (l.drop i).all mayS = true then (bitsTo (fun v => ((gath l v : Nat) : Int)) 256, true) else ([], false)) := by
  induction d with
  | zero =>
    intro i k hi hk
    obtain ⟨k, rfl⟩ : ∃ j, k = j + 1 := ⟨k - 1, by omega⟩
    have hfu : 200 + 255 * (32 * (l.length + 2) + 3) ≤ k := by omega
    have h1 := of_l1 l hl 255 1 k rfl (Nat.le_refl _) hfu
    have hb : bitsTo (fun v => ((gath l v : Nat) : Int)) 1 = [] := by rw [bitsTo, if_pos (by simp [gath])]; rfl
    rw [hb] at h1
    rw [counterfoilref10_Of.l0, if_neg (by omega), List.drop_eq_nil_of_le (by omega)]
    exact h1
  | succ d ih =>
    intro i k hi hk
    obtain ⟨k, rfl⟩ : ∃ j, k = j + 1 := ⟨k - 1, by omega⟩
    have hli : i < l.length := by omega
    rw [counterfoilref10_Of.l0, if_pos (by omega), if_pos (by omega), rd37 l i hli, may_eq, List.drop_eq_getElem_cons hli, List.all_cons]
    simp only [Option.bind_some]
    cases hm : mayS l[i] with
    | false => rfl
    | true =>
      rw [if_pos rfl, Bool.true_and, w64 (by omega) (by omega), show (i : Int) + 1 = ((i + 1 : Nat) : Int) from by omega]
      exact ih (i + 1) k (by omega) (by omega)
set_option maxRecDepth 100000 in
theorem of_eq (l : List S37) (hl : l.length ≤ 1000000) {k : Nat} (hk : 20000000000 ≤ k) : counterfoilref10_Of.f k l = some (if l.all mayS = true then (bitsTo (fun v => ((gath l v : Nat) : Int)) 256, true) else ([], false)) := by
  have := of_l0 l hl l.length 0 k (by omega) (by omega)
  rw [List.drop_zero] at this
  exact this
theorem equal_l0 (m : List S63) (hm : m.length ≤ 4611686018427387904) (d : Nat) : ∀ (i k : Nat), i + d = m.length → d < k → counterfoilref10_Equal.l0 k m m (i : Int) = some true := by
  induction d with
  | zero =>
    intro i k hi hk
    obtain ⟨k, rfl⟩ : ∃ j, k = j + 1 := ⟨k - 1, by omega⟩
    rw [counterfoilref10_Equal.l0, if_neg (by omega)]
  | succ d ih =>
    intro i k hi hk
    obtain ⟨k, rfl⟩ : ∃ j, k = j + 1 := ⟨k - 1, by omega⟩
    rw [counterfoilref10_Equal.l0, if_pos (by omega), if_pos (by omega), if_pos (by omega), if_neg (by simp), w64 (by omega) (by omega), show (i : Int) + 1 = ((i + 1 : Nat) : Int) from by omega]
    exact ih (i + 1) k (by omega) (by omega)
theorem equal_same (m : List S63) (hm : m.length ≤ 4611686018427387904) {k : Nat} (hk : m.length < k) : counterfoilref10_Equal.f k m m = some true := by
  unfold counterfoilref10_Equal.f
  rw [if_pos rfl]
  exact equal_l0 m hm m.length 0 k (by omega) hk
/-- What marks say of masks' lists. -/
theorem marks_named (v : Int) (p : Nat → Bool) (u : Nat) (n : Nat) (d : Nat) : ∀ b, named (marks v p b d) u n = (decide (v = (u : Int)) && (decide (b ≤ n ∧ n < b + d) && p n)) := by
  induction d with
  | zero => intro b; simp [marks, named]; omega
  | succ d ih =>
    intro b
    have hap : ∀ x y : List S37, named (x ++ y) u n = (named x u n || named y u n) := fun x y => List.any_append
    rw [marks, hap, ih]
    by_cases hp : p b = true
    · rw [if_pos hp]
      simp only [named, List.any_cons, List.any_nil, Bool.or_false]
      by_cases hv : v = (u : Int)
      · by_cases hb : b = n
        · subst hb; simp [hv, hp]
        · have : ¬ ((b : Int) = (n : Int)) := by omega
          have h2 : (b + 1 ≤ n ∧ n < b + 1 + d) ↔ (b ≤ n ∧ n < b + (d + 1)) := by omega
          simp [hv, this, h2]
      · simp [hv]
    · rw [if_neg hp]
      by_cases hb : b = n
      · subst hb; simp [named, hp]
      · have h2 : (b + 1 ≤ n ∧ n < b + 1 + d) ↔ (b ≤ n ∧ n < b + (d + 1)) := by omega
        simp [named, h2]
theorem list_named (m : List S63) (v n : Nat) (hn : n < 32) : named (listS m) v n = hasB m v n := by
  induction m with
  | nil => rfl
  | cons b m ih =>
    have hap : ∀ x y : List S37, named (x ++ y) v n = (named x v n || named y v n) := fun x y => List.any_append
    show named (marks b.f0 (fun n => b.f1.toNat.testBit n) 0 32 ++ listS m) v n = _
    rw [hap, ih, marks_named]
    simp only [hasB, List.any_cons]
    rw [decide_eq_true (show 0 ≤ n ∧ n < 0 + 32 by omega), Bool.true_and]
theorem named_append (x y : List S37) (v n : Nat) : named (x ++ y) v n = (named x v n || named y v n) := List.any_append
theorem marks_may (v : Int) (p : Nat → Bool) (hv : 0 < v ∧ v < 256) (d : Nat) : ∀ b, b + d ≤ 32 → (marks v p b d).all mayS = true := by
  induction d with
  | zero => intro b _; rfl
  | succ d ih =>
    intro b hb
    rw [marks, List.all_append, ih (b + 1) (by omega), Bool.and_true]
    split
    · simp [mayS]; omega
    · rfl
theorem list_may {m : List S63} (hr : rgt 0 m = true) : (listS m).all mayS = true := by
  have hm := rgt_mem hr (by omega)
  clear hr
  induction m with
  | nil => rfl
  | cons b m ih =>
    have := hm b List.mem_cons_self
    show (marks b.f0 (fun n => b.f1.toNat.testBit n) 0 32 ++ listS m).all mayS = true
    rw [List.all_append, marks_may _ _ ⟨by omega, by omega⟩ 32 0 (by omega), ih (fun c hc => hm c (List.mem_cons_of_mem _ hc))]
    rfl
theorem list_len (m : List S63) : (listS m).length ≤ 32 * m.length := by
  induction m with
  | nil => simp [listS]
  | cons b m ih =>
    have h1 := marks_len b.f0 (fun n => b.f1.toNat.testBit n) 32 0
    show (marks b.f0 (fun n => b.f1.toNat.testBit n) 0 32 ++ listS m).length ≤ _
    rw [List.length_append, List.length_cons]
    omega
/-- No right masks mark volume 0. -/
theorem has_zero {m : List S63} (hr : rgt 0 m = true) (n : Nat) : hasB m 0 n = false := by
  rw [hasB, List.any_eq_false]
  intro b hb
  have := rgt_mem hr (by omega) b hb
  simp
  intro he
  omega
end Go.Proofs.Ytcigkejiompieaa.Dirty
