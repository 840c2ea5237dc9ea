/- What the document gathers of marks: Of; Equal of the same. -/
import Derived.Test.YtcigkejiompieaaDoorPx0
import Derived.Test.YtcigkejiompieaaDoorQDirtyC
set_option linter.unusedVariables false
set_option linter.unusedSimpArgs false
namespace Go.Proofs.YtcigkejiompieaaDoor.Dirty
open Go.RowKit Go.Proofs.YtcigkejiompieaaDoor.P Go.Proofs.YtcigkejiompieaaDoorW.PrintWords Go.Proofs.YtcigkejiompieaaDoorW.PrintLast Go.Proofs.YtcigkejiompieaaDoorW.PrintMore

theorem rd37 (m : List S33) (i : Nat) (h : i < m.length) : rd_T33 m (i : Int) = m[i] := by
  unfold rd_T33
  rw [Int.toNat_natCast, List.getD_eq_getElem?_getD, List.getElem?_eq_getElem h]
  rfl
def mayS (x : S33) : Bool := decide (0 < x.f0 ∧ x.f0 < 256 ∧ 0 ≤ x.f1 ∧ x.f1 < 32)
/-- Is a block of a volume named? -/
def named (l : List S33) (v b : Nat) : Bool := l.any fun x => decide (x.f0 = (v : Int)) && decide (x.f1 = (b : Int))
/-- The masks of marks. -/
def gath (l : List S33) (v : Nat) : Nat := if v = 0 then 0 else sumBits (fun b => named l v b) 32
theorem gath_lt (l : List S33) (v : Nat) : gath l v < 4294967296 := by
  unfold gath
  split
  · omega
  · exact sumBits_lt _ 32
/-- What marks say of masks' lists. -/
theorem marks_named (v : Int) (p : Nat → Bool) (u : Nat) (n : Nat) (d : Nat) : ∀ b, named (marks v p b d) u n = (decide (v = (u : Int)) && (decide (b ≤ n ∧ n < b + d) && p n)) := by
  induction d with
  | zero => intro b; simp [marks, named]; omega
  | succ d ih =>
    intro b
    have hap : ∀ x y : List S33, named (x ++ y) u n = (named x u n || named y u n) := fun x y => List.any_append
    rw [marks, hap, ih]
    by_cases hp : p b = true
    · rw [if_pos hp]
      simp only [named, List.any_cons, List.any_nil, Bool.or_false]
      by_cases hv : v = (u : Int)
      · by_cases hb : b = n
        · subst hb; simp [hv, hp]
        · have : ¬ ((b : Int) = (n : Int)) := by omega
          have h2 : (b + 1 ≤ n ∧ n < b + 1 + d) ↔ (b ≤ n ∧ n < b + (d + 1)) := by omega
          simp [hv, this, h2]
      · simp [hv]
    · rw [if_neg hp]
      by_cases hb : b = n
      · subst hb; simp [named, hp]
      · have h2 : (b + 1 ≤ n ∧ n < b + 1 + d) ↔ (b ≤ n ∧ n < b + (d + 1)) := by omega
        simp [named, h2]
theorem list_named (m : List S48) (v n : Nat) (hn : n < 32) : named (listS m) v n = hasB m v n := by
  induction m with
  | nil => rfl
  | cons b m ih =>
    have hap : ∀ x y : List S33, named (x ++ y) v n = (named x v n || named y v n) := fun x y => List.any_append
    show named (marks b.f0 (fun n => b.f1.toNat.testBit n) 0 32 ++ listS m) v n = _
    rw [hap, ih, marks_named]
    simp only [hasB, List.any_cons]
    rw [decide_eq_true (show 0 ≤ n ∧ n < 0 + 32 by omega), Bool.true_and]
theorem named_append (x y : List S33) (v n : Nat) : named (x ++ y) v n = (named x v n || named y v n) := List.any_append
theorem marks_may (v : Int) (p : Nat → Bool) (hv : 0 < v ∧ v < 256) (d : Nat) : ∀ b, b + d ≤ 32 → (marks v p b d).all mayS = true := by
  induction d with
  | zero => intro b _; rfl
  | succ d ih =>
    intro b hb
    rw [marks, List.all_append, ih (b + 1) (by omega), Bool.and_true]
    split
    · simp [mayS]; omega
    · rfl
theorem list_may {m : List S48} (hr : rgt 0 m = true) : (listS m).all mayS = true := by
  have hm := rgt_mem hr (by omega)
  clear hr
  induction m with
  | nil => rfl
  | cons b m ih =>
    have := hm b List.mem_cons_self
    show (marks b.f0 (fun n => b.f1.toNat.testBit n) 0 32 ++ listS m).all mayS = true
    rw [List.all_append, marks_may _ _ ⟨by omega, by omega⟩ 32 0 (by omega), ih (fun c hc => hm c (List.mem_cons_of_mem _ hc))]
    rfl
theorem list_len (m : List S48) : (listS m).length ≤ 32 * m.length := by
  induction m with
  | nil => simp [listS]
  | cons b m ih =>
    have h1 := marks_len b.f0 (fun n => b.f1.toNat.testBit n) 32 0
    show (marks b.f0 (fun n => b.f1.toNat.testBit n) 0 32 ++ listS m).length ≤ _
    rw [List.length_append, List.length_cons]
    omega
/-- No right masks mark volume 0. -/
theorem has_zero {m : List S48} (hr : rgt 0 m = true) (n : Nat) : hasB m 0 n = false := by
  rw [hasB, List.any_eq_false]
  intro b hb
  have := rgt_mem hr (by omega) b hb
  simp
  intro he
  omega
end Go.Proofs.YtcigkejiompieaaDoor.Dirty
