/- What the document's Has, List, Of answer, in bits. -/
import Derived.Test.YtcigkejiompieaaDoorPx0
import Derived.Test.YtcigkejiompieaaDoorPx6
import Derived.Test.YtcigkejiompieaaDoorQDirtyB
set_option linter.unusedVariables false
set_option linter.unusedSimpArgs false
namespace Go.Proofs.YtcigkejiompieaaDoor.Dirty
open Go.RowKit Go.Proofs.YtcigkejiompieaaDoor.P Go.Proofs.YtcigkejiompieaaDoorW.PrintWords Go.Proofs.YtcigkejiompieaaDoorW.PrintLast Go.Proofs.YtcigkejiompieaaDoorW.PrintMore

theorem rgt_small {m : List S48} (h : rgt 0 m = true) (hw : ∀ b ∈ m, 0 ≤ b.f1) : small m := fun b hb => by
  have := rgt_mem h (by omega) b hb
  exact ⟨by omega, hw b hb, this.2.2.2⟩
theorem bit_eq (x n : Nat) (hx : x < 4294967296) : ((Int.tmod (IntKind.u64.wrap (Int.tdiv (x : Int) ((2 ^ n : Nat) : Int))) 2) == 1) = x.testBit n := by
  have h1 : Int.tdiv (x : Int) ((2 ^ n : Nat) : Int) = ((x / 2 ^ n : Nat) : Int) := by rw [Int.ofNat_tdiv]
  have h2 : x / 2 ^ n ≤ x := Nat.div_le_self _ _
  rw [h1, IntKind.wrap_u64, Nat.testBit_eq_decide_div_mod_eq]
  generalize x / 2 ^ n = y at h2 ⊢
  rw [show (y : Int) % 18446744073709551616 = (y : Int) from by omega, Int.tmod_eq_emod_of_nonneg (by omega), Bool.eq_iff_iff, beq_iff_eq, decide_eq_true_eq]
  omega
/-- Is a block of a volume marked? (whatever the volume's number) -/
def hasI (m : List S48) (v : Int) (n : Nat) : Bool := m.any fun b => decide (b.f0 = v) && b.f1.toNat.testBit n
theorem hasI_gt {m : List S48} {v : Int} (h : rgt v m = true) (hv : 0 ≤ v) (n : Nat) : hasI m v n = false := by
  rw [hasI, List.any_eq_false]
  intro b hb
  have := rgt_mem h hv b hb
  simp
  intro he
  omega
theorem rgt_drop {m : List S48} : ∀ {last : Int} (i : Nat) (hi : i < m.length), rgt last m = true → rgt (m[i]).f0 (m.drop (i + 1)) = true := by
  induction m with
  | nil => intro last i hi; simp at hi
  | cons b m ih =>
    intro last i hi h
    rw [rgt, Bool.and_eq_true] at h
    cases i with
    | zero => exact h.2
    | succ i => exact ih i (by simpa using hi) h.2
theorem rhas_l0 (m : List S48) (hm : m.length ≤ 4611686018427387904) (hr : rgt 0 m = true) (hs : small m) (v : Int) (n : Nat) (hn : n ≤ 63) (d : Nat) : ∀ (i k : Nat), i + d = m.length → d + 65 ≤ k → counterfoilref10_Has.l0 k m v (n : Int) (i : Int) = some (hasI (m.drop i) v n) := by
  induction d with
  | zero =>
    intro i k hi hk
    obtain ⟨k, rfl⟩ : ∃ j, k = j + 1 := ⟨k - 1, by omega⟩
    rw [counterfoilref10_Has.l0, if_neg (by omega), List.drop_eq_nil_of_le (by omega)]
    rfl
  | succ d ih =>
    intro i k hi hk
    obtain ⟨k, rfl⟩ : ∃ j, k = j + 1 := ⟨k - 1, by omega⟩
    have hl : i < m.length := by omega
    have hb := hs _ (List.getElem_mem hl)
    have hd := rgt_drop i hl hr
    have hp : ((2 ^ n : Nat) : Int) ≠ 0 := by have := Nat.two_pow_pos n; omega
    rw [counterfoilref10_Has.l0, if_pos (by omega), if_pos (by omega), rd63 m i hl, List.drop_eq_getElem_cons hl]
    rw [show hasI (m[i] :: m.drop (i + 1)) v n = ((decide ((m[i]).f0 = v) && (m[i]).f1.toNat.testBit n) || hasI (m.drop (i + 1)) v n) from rfl]
    by_cases h1 : (m[i]).f0 = v
    · rw [if_pos h1, power_eq n hn (by omega)]
      simp only [Option.bind_some]
      rw [h1] at hd
      rw [if_neg hp, decide_eq_true h1, Bool.true_and, hasI_gt hd (by omega), Bool.or_false, show (m[i]).f1 = (((m[i]).f1.toNat : Nat) : Int) from by omega, bit_eq _ _ (by omega), Int.toNat_natCast]
    · rw [if_neg h1, decide_eq_false h1, Bool.false_and, Bool.false_or, w64 (by omega) (by omega), show (i : Int) + 1 = ((i + 1 : Nat) : Int) from by omega]
      exact ih (i + 1) k (by omega) (by omega)
theorem rhas_eq (m : List S48) (hm : m.length ≤ 4611686018427387904) (hr : rgt 0 m = true) (hs : small m) (v : Int) (n : Nat) (hn : n < 32) {k : Nat} (hk : m.length + 70 ≤ k) : counterfoilref10_Has.f k m v (n : Int) = some (hasI m v n) := by
  unfold counterfoilref10_Has.f
  rw [rright_eq m hm (by omega), hr]
  simp only [Option.bind_some, if_true]
  obtain ⟨k, rfl⟩ : ∃ j, k = j + 1 := ⟨k - 1, by omega⟩
  rw [if_neg (by omega), decide_eq_false (by omega), counterfoilref10_Has.j0, if_neg (by decide)]
  have := rhas_l0 m hm hr hs v n (by omega) m.length 0 k (by omega) (by omega)
  rw [List.drop_zero] at this
  exact this
/-- The marks of one volume from block b on. -/
def marks (v : Int) (p : Nat → Bool) : Nat → Nat → List S33
  | _, 0 => []
  | b, d + 1 => (if p b = true then [(⟨v, (b : Int)⟩ : S33)] else []) ++ marks v p (b + 1) d
theorem marks_len (v : Int) (p : Nat → Bool) (d : Nat) : ∀ b, (marks v p b d).length ≤ d := by
  induction d with
  | zero => intro b; exact Nat.le_refl _
  | succ d ih =>
    intro b
    unfold marks
    have := ih (b + 1)
    rw [List.length_append]
    split <;> simp <;> omega
/-- All marks of masks. -/
def listS (m : List S48) : List S33 := m.flatMap fun b => marks b.f0 (fun n => b.f1.toNat.testBit n) 0 32
theorem own_bit {m : List S48} (hr : rgt 0 m = true) (hs : small m) (i : Nat) (hl : i < m.length) (n : Nat) : hasI m (m[i]).f0 n = (m[i]).f1.toNat.testBit n := by
  suffices ∀ (m : List S48) (last : Int), 0 ≤ last → rgt last m = true → ∀ i (hl : i < m.length), hasI m (m[i]).f0 n = (m[i]).f1.toNat.testBit n from this m 0 (by omega) hr i hl
  intro m
  induction m with
  | nil => intro last _ _ i hl; simp at hl
  | cons b m ih =>
    intro last h0 h i hl
    have hbm := rgt_mem h h0 b List.mem_cons_self
    rw [rgt, Bool.and_eq_true] at h
    cases i with
    | zero =>
      show ((decide (b.f0 = b.f0) && b.f1.toNat.testBit n) || hasI m b.f0 n) = b.f1.toNat.testBit n
      rw [hasI_gt h.2 (by omega), decide_eq_true rfl, Bool.true_and, Bool.or_false]
    | succ i =>
      have hl' : i < m.length := by simpa using hl
      have hc := rgt_mem h.2 (by omega) _ (List.getElem_mem hl')
      show ((decide (b.f0 = (m[i]).f0) && b.f1.toNat.testBit n) || hasI m (m[i]).f0 n) = (m[i]).f1.toNat.testBit n
      rw [decide_eq_false (by omega), Bool.false_and, Bool.false_or]
      exact ih b.f0 (by omega) h.2 i hl'
theorem list_l1 (m : List S48) (hm : m.length ≤ 300) (hr : rgt 0 m = true) (hs : small m) (i : Nat) (hl : i < m.length) (R : List S33) (K : Nat) (hK : 500 ≤ K) (full : List S33) (hfl : full.length ≤ 1000000) (HR : ∀ k, K ≤ k → counterfoilref10_List.l0 k m full ((i + 1 : Nat) : Int) = some R) (d : Nat) :
    ∀ (b k : Nat) (acc : List S33), b + d = 32 → K + d + 1 ≤ k → acc ++ marks (m[i]).f0 (fun n => (m[i]).f1.toNat.testBit n) b d = full → counterfoilref10_List.l1 k m acc (i : Int) (b : Int) = some R := by
  induction d with
  | zero =>
    intro b k acc hb hk hf
    obtain ⟨k, rfl⟩ : ∃ j, k = j + 1 := ⟨k - 1, by omega⟩
    rw [marks, List.append_nil] at hf
    rw [counterfoilref10_List.l1, if_neg (by omega), w64 (by omega) (by omega), show (i : Int) + 1 = ((i + 1 : Nat) : Int) from by omega, hf]
    exact HR k (by omega)
  | succ d ih =>
    intro b k acc hb hk hf
    obtain ⟨k, rfl⟩ : ∃ j, k = j + 1 := ⟨k - 1, by omega⟩
    have hlen : acc.length ≤ 1000000 := by rw [← hf, List.length_append] at hfl; omega
    rw [counterfoilref10_List.l1, if_pos (by omega), if_pos (by omega), if_pos (by omega), rd63 m i hl, rhas_eq m (by omega) hr hs _ b (by omega) (by omega), own_bit hr hs i hl]
    simp only [Option.bind_some]
    rw [marks] at hf
    rw [w64 (by omega) (by omega), show (b : Int) + 1 = ((b + 1 : Nat) : Int) from by omega]
    by_cases h1 : (m[i]).f1.toNat.testBit b = true
    · rw [if_pos h1, if_pos (by omega)]
      rw [if_pos h1, ← List.append_assoc] at hf
      exact ih (b + 1) k _ (by omega) (by omega) hf
    · rw [if_neg h1]
      rw [if_neg h1, List.nil_append] at hf
      exact ih (b + 1) k _ (by omega) (by omega) hf
theorem list_l0 (m : List S48) (hm : m.length ≤ 300) (hr : rgt 0 m = true) (hs : small m) (d : Nat) : ∀ (i k : Nat) (acc : List S33), i + d = m.length → 600 + 40 * d ≤ k → acc.length ≤ 32 * i → counterfoilref10_List.l0 k m acc (i : Int) = some (acc ++ listS (m.drop i)) := by
  induction d with
  | zero =>
    intro i k acc hi hk ha
    obtain ⟨k, rfl⟩ : ∃ j, k = j + 2 := ⟨k - 2, by omega⟩
    rw [counterfoilref10_List.l0, if_neg (by omega), counterfoilref10_List.j1, if_neg (by decide), List.drop_eq_nil_of_le (by omega)]
    simp [listS]
  | succ d ih =>
    intro i k acc hi hk ha
    obtain ⟨k, rfl⟩ : ∃ j, k = j + 2 := ⟨k - 2, by omega⟩
    have hl : i < m.length := by omega
    have hml := marks_len (m[i]).f0 (fun n => (m[i]).f1.toNat.testBit n) 32 0
    rw [counterfoilref10_List.l0, if_pos (by omega), rright_eq m (by omega) (by omega), hr]
    simp only [Option.bind_some]
    rw [counterfoilref10_List.j1, if_pos rfl]
    refine list_l1 m hm hr hs i hl _ (600 + 40 * d) (by omega) (acc ++ marks (m[i]).f0 (fun n => (m[i]).f1.toNat.testBit n) 0 32) (by rw [List.length_append]; omega) ?_ 32 0 k acc (by omega) (by omega) rfl
    intro k' hk'
    rw [ih (i + 1) k' _ (by omega) hk' (by rw [List.length_append]; omega), List.drop_eq_getElem_cons hl, List.append_assoc]
    rfl
theorem rlist_eq (m : List S48) (hm : m.length ≤ 300) (hr : rgt 0 m = true) (hs : small m) {k : Nat} (hk : 20000 ≤ k) : counterfoilref10_List.f k m = some (listS m) := by
  have := list_l0 m hm hr hs m.length 0 k [] (by omega) (by omega) (by simp)
  rw [List.drop_zero, List.nil_append] at this
  exact this
end Go.Proofs.YtcigkejiompieaaDoor.Dirty
