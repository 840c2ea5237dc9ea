/- Volumes: right ones, all their blocks. -/
import Derived.Test.YtcigkejiompieaaDoorPx0
import Derived.Test.YtcigkejiompieaaDoorPx10
import Derived.Test.YtcigkejiompieaaDoorPx3
import Derived.Test.YtcigkejiompieaaDoorPx7
import Derived.Test.YtcigkejiompieaaDoorPx9
import Derived.Test.YtcigkejiompieaaDoorQDirtyE
set_option linter.unusedVariables false
set_option linter.unusedSimpArgs false
namespace Go.Proofs.YtcigkejiompieaaDoor.Dirty
open Go.RowKit Go.Proofs.YtcigkejiompieaaDoor.P Go.Proofs.YtcigkejiompieaaDoorW.PrintWords Go.Proofs.YtcigkejiompieaaDoorW.PrintLast Go.Proofs.YtcigkejiompieaaDoorW.PrintMore

theorem rd76 (m : List S40) (i : Nat) (h : i < m.length) : rd_T40 m (i : Int) = m[i] := by
  unfold rd_T40
  rw [Int.toNat_natCast, List.getD_eq_getElem?_getD, List.getElem?_eq_getElem h]
  rfl
def shortB (l : List ByteArray) : Bool := l.all fun s => decide (s.size ≤ 8)
def rgtV : Int → List S40 → Bool
  | _, [] => true
  | last, x :: r => (decide (last < x.f0 ∧ x.f0 ≤ 255 ∧ 1 ≤ x.f1.length ∧ x.f1.length ≤ 32) && shortB x.f1) && rgtV x.f0 r
def rightV (vs : List S40) : Bool := decide (vs.length ≤ 4) && rgtV 0 vs
theorem idx_eq (l : List ByteArray) : ∀ i : Int, 0 ≤ i → decide (0 ≤ slices_IndexFunc_string_string.idx l i) = !shortB l := by
  induction l with
  | nil => intro i _; rfl
  | cons s l ih =>
    intro i hi
    unfold slices_IndexFunc_string_string.idx
    show _ = !(decide (s.size ≤ 8) && shortB l)
    by_cases h : 8 < s.size
    · rw [if_pos h, decide_eq_true hi, decide_eq_false (show ¬ s.size ≤ 8 by omega)]; rfl
    · rw [if_neg h, ih (i + 1) (by omega), decide_eq_true (show s.size ≤ 8 by omega), Bool.true_and]
theorem contains_eq (l : List ByteArray) : slices_ContainsFunc_string_string.f l 27 = some (!shortB l) := by
  unfold slices_ContainsFunc_string_string.f slices_IndexFunc_string_string.f
  rw [if_pos rfl]
  simp only [Option.bind_some]
  rw [idx_eq l 0 (Int.le_refl _)]
theorem size_eq (n : Nat) : vols_size.f (n : Int) = some (decide (1 ≤ n ∧ n ≤ 32)) := by
  unfold vols_size.f
  by_cases h : (n : Int) ≥ 1
  · rw [if_pos h]
    congr 1
    rw [decide_eq_decide]
    omega
  · rw [if_neg h, decide_eq_false (by omega)]
theorem vright_l0 (vs : List S40) (hv : vs.length ≤ 4611686018427387904) (d : Nat) : ∀ (i k : Nat) (last : Int), i + d = vs.length → 2 * d < k →
    vols_Right.l0 k vs last vs (vs.length : Int) (i : Int) = some (rgtV last (vs.drop i) && decide (vs.length ≤ 4)) := by
  induction d with
  | zero =>
    intro i k last hi hk
    obtain ⟨k, rfl⟩ : ∃ j, k = j + 1 := ⟨k - 1, by omega⟩
    rw [vols_Right.l0, if_neg (by omega), List.drop_eq_nil_of_le (by omega)]
    show _ = some (true && _)
    rw [Bool.true_and]
    congr 1
    rw [decide_eq_decide]
    omega
  | succ d ih =>
    intro i k last hi hk
    obtain ⟨k, rfl⟩ : ∃ j, k = j + 2 := ⟨k - 2, by omega⟩
    have hl : i < vs.length := by omega
    rw [vols_Right.l0, if_pos (by omega), if_pos (by omega), if_pos (by omega), rd76 vs i hl, List.drop_eq_getElem_cons hl, size_eq]
    simp only [Option.bind_some]
    generalize vs[i] = x
    show _ = some (((decide (last < x.f0 ∧ x.f0 ≤ 255 ∧ 1 ≤ x.f1.length ∧ x.f1.length ≤ 32) && shortB x.f1) && rgtV x.f0 (vs.drop (i + 1))) && _)
    by_cases h1 : x.f0 ≤ last
    · rw [if_pos h1, vols_Right.j1, if_pos rfl, decide_eq_false (by omega)]; rfl
    · rw [if_neg h1]
      by_cases h2 : x.f0 > 255
      · rw [if_pos h2, vols_Right.j1, if_pos rfl, decide_eq_false (by omega)]; rfl
      · rw [if_neg h2, vols_Right.j1]
        by_cases h3 : 1 ≤ x.f1.length ∧ x.f1.length ≤ 32
        · rw [decide_eq_true h3, if_neg (by decide), contains_eq, decide_eq_true (show last < x.f0 ∧ x.f0 ≤ 255 ∧ 1 ≤ x.f1.length ∧ x.f1.length ≤ 32 from ⟨by omega, by omega, h3.1, h3.2⟩)]
          simp only [Option.bind_some, Bool.true_and]
          cases hs : shortB x.f1 with
          | false => rfl
          | true => rw [if_neg (by decide), w64 (by omega) (by omega), show (i : Int) + 1 = ((i + 1 : Nat) : Int) from by omega, ih (i + 1) k _ (by omega) (by omega), Bool.true_and]
        · rw [decide_eq_false h3, if_pos (show (!false) = true from rfl), decide_eq_false (fun h => h3 ⟨h.2.2.1, h.2.2.2⟩)]; rfl
theorem vright_eq (vs : List S40) (hv : vs.length ≤ 4611686018427387904) {k : Nat} (hk : 2 * vs.length < k) : vols_Right.f k vs = some (rightV vs) := by
  have := vright_l0 vs hv vs.length 0 k 0 (by omega) hk
  rw [List.drop_zero] at this
  show vols_Right.l0 k vs 0 vs (vs.length : Int) ((0 : Nat) : Int) = _
  rw [this, Bool.and_comm]
  rfl
def lastV (m : List S40) (i : Nat) : Int := if i = 0 then 0 else (rd_T40 m ((i - 1 : Nat) : Int)).f0
theorem rvol_l1 (vs : List S40) (hv : vs.length ≤ 4611686018427387904) (i : Nat) (hl : i < vs.length) (hb : (vs[i]).f1.length ≤ 32) (R : Bool) (K : Nat) (HR : ∀ k, K ≤ k → counterfoilref07_Right.l0 k vs ((i + 1 : Nat) : Int) = some R) (d : Nat) :
    ∀ (b k : Nat), b + d = (vs[i]).f1.length → K + d + 1 ≤ k → counterfoilref07_Right.l1 k vs (i : Int) (b : Int) = some (shortB ((vs[i]).f1.drop b) && R) := by
  induction d with
  | zero =>
    intro b k hb2 hk
    obtain ⟨k, rfl⟩ : ∃ j, k = j + 1 := ⟨k - 1, by omega⟩
    rw [counterfoilref07_Right.l1, if_pos (by omega), if_pos (by omega), rd76 vs i hl, if_neg (by omega), w64 (by omega) (by omega), show (i : Int) + 1 = ((i + 1 : Nat) : Int) from by omega, HR k (by omega), List.drop_eq_nil_of_le (by omega)]
    rfl
  | succ d ih =>
    intro b k hb2 hk
    obtain ⟨k, rfl⟩ : ∃ j, k = j + 1 := ⟨k - 1, by omega⟩
    have hlb : b < (vs[i]).f1.length := by omega
    have hg : rdOf ByteArray.empty (vs[i]).f1 (b : Int) = (vs[i]).f1[b] := by
      unfold rdOf
      rw [Int.toNat_natCast, List.getD_eq_getElem?_getD, List.getElem?_eq_getElem hlb]
      rfl
    rw [counterfoilref07_Right.l1, if_pos (by omega), if_pos (by omega), rd76 vs i hl, if_pos (by omega), if_pos (by omega), hg, w64 (by omega) (by omega), show (b : Int) + 1 = ((b + 1 : Nat) : Int) from by omega, ih (b + 1) k (by omega) (by omega), List.drop_eq_getElem_cons hlb]
    show _ = some ((decide (((vs[i]).f1[b]).size ≤ 8) && shortB _) && R)
    by_cases h : ((((vs[i]).f1[b]).size : Nat) : Int) > 8
    · rw [if_pos h, decide_eq_false (by omega)]; rfl
    · rw [if_neg h, decide_eq_true (by omega), Bool.true_and]
theorem rvol_l0 (vs : List S40) (hv : vs.length ≤ 4611686018427387904) (d : Nat) : ∀ (i k : Nat), i + d = vs.length → 40 * d < k → 0 ≤ lastV vs i → counterfoilref07_Right.l0 k vs (i : Int) = some (rgtV (lastV vs i) (vs.drop i)) := by
  induction d with
  | zero =>
    intro i k hi hk h0
    obtain ⟨k, rfl⟩ : ∃ j, k = j + 1 := ⟨k - 1, by omega⟩
    rw [counterfoilref07_Right.l0, if_neg (by omega), List.drop_eq_nil_of_le (by omega)]
    rfl
  | succ d ih =>
    intro i k hi hk h0
    obtain ⟨k, rfl⟩ : ∃ j, k = j + 2 := ⟨k - 2, by omega⟩
    have hl : i < vs.length := by omega
    have hlast : lastV vs (i + 1) = (vs[i]).f0 := by
      unfold lastV
      rw [if_neg (by omega), Nat.add_sub_cancel, rd76 vs i hl]
    have H := rvol_l1 vs hv i hl
    have hi1 := fun k h h2 => ih (i + 1) k (by omega) h h2
    rw [hlast] at hi1
    rw [counterfoilref07_Right.l0, if_pos (by omega), if_pos (by omega), rd76 vs i hl, List.drop_eq_getElem_cons hl]
    show _ = some (((decide (lastV vs i < (vs[i]).f0 ∧ (vs[i]).f0 ≤ 255 ∧ 1 ≤ (vs[i]).f1.length ∧ (vs[i]).f1.length ≤ 32) && shortB (vs[i]).f1) && rgtV (vs[i]).f0 (vs.drop (i + 1))))
    by_cases h1 : (vs[i]).f0 < 1
    · rw [if_pos h1, counterfoilref07_Right.j1, if_pos rfl, decide_eq_false (by omega)]; rfl
    · rw [if_neg h1]
      by_cases h2 : (vs[i]).f0 > 255
      · rw [if_pos h2, counterfoilref07_Right.j1, if_pos rfl, decide_eq_false (by omega)]; rfl
      · rw [if_neg h2]
        have fin : (if (((vs[i]).f1.length : Nat) : Int) < 1 then (counterfoilref07_Right.j1 (k + 1) vs (i : Int) true) else (counterfoilref07_Right.j1 (k + 1) vs (i : Int) (decide ((((vs[i]).f1.length : Nat) : Int) > 32)))) = some (decide (1 ≤ (vs[i]).f1.length ∧ (vs[i]).f1.length ≤ 32) && shortB (vs[i]).f1 && rgtV (vs[i]).f0 (vs.drop (i + 1))) := by
          by_cases h3 : (((vs[i]).f1.length : Nat) : Int) < 1
          · rw [if_pos h3, counterfoilref07_Right.j1, if_pos rfl, decide_eq_false (by omega)]; rfl
          · rw [if_neg h3, counterfoilref07_Right.j1]
            by_cases h4 : (((vs[i]).f1.length : Nat) : Int) > 32
            · rw [decide_eq_true h4, if_pos rfl, decide_eq_false (by omega)]; rfl
            · rw [decide_eq_false h4, if_neg (by decide), decide_eq_true (by omega), Bool.true_and]
              have := H (by omega) _ (40 * d + 1) (fun k hk => hi1 k (by omega) (by omega)) (vs[i]).f1.length 0 k (by omega) (by omega)
              rw [List.drop_zero] at this
              exact this
        by_cases h3 : (i : Int) > 0
        · have e : wrap64 ((i : Int) - 1) = ((i - 1 : Nat) : Int) := by rw [w64 (by omega) (by omega)]; omega
          have hla : lastV vs i = (rd_T40 vs ((i - 1 : Nat) : Int)).f0 := by unfold lastV; rw [if_neg (by omega)]
          rw [if_pos h3, e, if_pos (by omega), if_pos (by omega), ← hla]
          by_cases h5 : lastV vs i ≥ (vs[i]).f0
          · rw [if_pos h5, counterfoilref07_Right.j1, if_pos rfl, decide_eq_false (by omega)]; rfl
          · rw [if_neg h5, fin]
            have : decide (lastV vs i < (vs[i]).f0 ∧ (vs[i]).f0 ≤ 255 ∧ 1 ≤ (vs[i]).f1.length ∧ (vs[i]).f1.length ≤ 32) = decide (1 ≤ (vs[i]).f1.length ∧ (vs[i]).f1.length ≤ 32) := by rw [decide_eq_decide]; omega
            rw [this]
        · have hla : lastV vs i = 0 := by unfold lastV; rw [if_pos (by omega)]
          rw [if_neg h3, fin]
          have : decide (lastV vs i < (vs[i]).f0 ∧ (vs[i]).f0 ≤ 255 ∧ 1 ≤ (vs[i]).f1.length ∧ (vs[i]).f1.length ≤ 32) = decide (1 ≤ (vs[i]).f1.length ∧ (vs[i]).f1.length ≤ 32) := by rw [decide_eq_decide]; omega
          rw [this]
theorem rvol_eq (vs : List S40) {k : Nat} (hk : 1000 ≤ k) : counterfoilref07_Right.f k vs = some (rightV vs) := by
  unfold counterfoilref07_Right.f rightV
  by_cases h : (vs.length : Int) > 4
  · rw [if_pos h, decide_eq_false (by omega)]; rfl
  · rw [if_neg h, decide_eq_true (by omega), Bool.true_and]
    have := rvol_l0 vs (by omega) vs.length 0 k (by omega) (by omega) (Int.le_refl _)
    rw [List.drop_zero] at this
    exact this
theorem small07_l0 (vs : List S40) (hv : vs.length ≤ 10) (d : Nat) : ∀ (i k : Nat), i + d = vs.length → d < k → counterfoilref07_Small.l0 k vs (i : Int) = some ((vs.drop i).all fun x => decide (x.f1.length ≤ 100)) := by
  induction d with
  | zero =>
    intro i k hi hk
    obtain ⟨k, rfl⟩ : ∃ j, k = j + 1 := ⟨k - 1, by omega⟩
    rw [counterfoilref07_Small.l0, if_neg (by omega), List.drop_eq_nil_of_le (by omega)]
    rfl
  | succ d ih =>
    intro i k hi hk
    obtain ⟨k, rfl⟩ : ∃ j, k = j + 1 := ⟨k - 1, by omega⟩
    have hl : i < vs.length := by omega
    rw [counterfoilref07_Small.l0, if_pos (by omega), if_pos (by omega), rd76 vs i hl, w64 (by omega) (by omega), show (i : Int) + 1 = ((i + 1 : Nat) : Int) from by omega, ih (i + 1) k (by omega) (by omega), List.drop_eq_getElem_cons hl, List.all_cons]
    by_cases h : (((vs[i]).f1.length : Nat) : Int) > 100
    · rw [if_pos h, decide_eq_false (by omega)]; rfl
    · rw [if_neg h, decide_eq_true (by omega), Bool.true_and]
theorem small07_eq (vs : List S40) (ws : List S45) {k : Nat} (hk : 100 ≤ k) : counterfoilref07_Small.f k vs ws = some (decide (vs.length ≤ 10 ∧ ws.length ≤ 200) && vs.all fun x => decide (x.f1.length ≤ 100)) := by
  obtain ⟨k, rfl⟩ : ∃ j, k = j + 1 := ⟨k - 1, by omega⟩
  unfold counterfoilref07_Small.f
  by_cases h : (vs.length : Int) > 10
  · rw [if_pos h, counterfoilref07_Small.j0, if_pos rfl, decide_eq_false (by omega)]; rfl
  · rw [if_neg h, counterfoilref07_Small.j0]
    by_cases h2 : (ws.length : Int) > 200
    · rw [decide_eq_true h2, if_pos rfl, decide_eq_false (by omega)]; rfl
    · rw [decide_eq_false h2, if_neg (by decide), decide_eq_true (by omega), Bool.true_and]
      have := small07_l0 vs (by omega) vs.length 0 k (by omega) (by omega)
      rw [List.drop_zero] at this
      exact this
/-- All blocks of volumes, as the document says; and as masks. -/
def allS (vs : List S40) : List S33 := vs.flatMap fun x => marks x.f0 (fun _ => true) 0 x.f1.length
def maskV (x : S40) : S48 := ⟨x.f0, ((2 ^ x.f1.length - 1 : Nat) : Int)⟩
theorem mask_eq (n : Nat) (h : n ≤ 32) : IntKind.u64.wrap ((shl .u64 1 (n : Int)) - 1) = ((2 ^ n - 1 : Nat) : Int) := by
  have h2 : (2 : Nat) ^ n ≤ 2 ^ 32 := Nat.pow_le_pow_right (by omega) h
  have h3 : 0 < (2 : Nat) ^ n := Nat.two_pow_pos n
  unfold shl
  rw [show min (n : Int).toNat IntKind.u64.bits = n from by rw [Int.toNat_natCast]; exact Nat.min_eq_left (by show n ≤ 64; omega)]
  rw [show (1 : Int) * 2 ^ n = ((2 ^ n : Nat) : Int) from by rw [Int.one_mul]; norm_cast]
  generalize 2 ^ n = x at h2 h3
  simp only [IntKind.wrap_u64]
  omega
theorem all_l0 (vs : List S40) (hv : vs.length ≤ 10) (hb : ∀ x ∈ vs, x.f1.length ≤ 32) (d : Nat) : ∀ (i k : Nat) (acc : List S48), i + d = vs.length → d < k → acc.length ≤ i → dirty_All.l0 k acc vs (vs.length : Int) (i : Int) = some (acc ++ (vs.drop i).map maskV) := by
  induction d with
  | zero =>
    intro i k acc hi hk ha
    obtain ⟨k, rfl⟩ : ∃ j, k = j + 1 := ⟨k - 1, by omega⟩
    rw [dirty_All.l0, if_neg (by omega), List.drop_eq_nil_of_le (by omega)]
    simp
  | succ d ih =>
    intro i k acc hi hk ha
    obtain ⟨k, rfl⟩ : ∃ j, k = j + 1 := ⟨k - 1, by omega⟩
    have hl : i < vs.length := by omega
    rw [dirty_All.l0, if_pos (by omega), if_pos (by omega), if_pos (by omega), rd76 vs i hl, if_pos (by omega), mask_eq _ (hb _ (List.getElem_mem hl)), w64 (by omega) (by omega), show (i : Int) + 1 = ((i + 1 : Nat) : Int) from by omega]
    rw [ih (i + 1) k _ (by omega) (by omega) (by rw [List.length_append, List.length_singleton]; omega), List.drop_eq_getElem_cons hl, List.append_assoc]
    rfl
theorem rgtV_mem {vs : List S40} : ∀ {last : Int}, rgtV last vs = true → 0 ≤ last → ∀ x ∈ vs, last < x.f0 ∧ x.f0 ≤ 255 ∧ 1 ≤ x.f1.length ∧ x.f1.length ≤ 32 := by
  induction vs with
  | nil => intro _ _ _ x hx; cases hx
  | cons y vs ih =>
    intro last h h0 x hx
    rw [rgtV, Bool.and_eq_true, Bool.and_eq_true, decide_eq_true_eq] at h
    rcases List.mem_cons.1 hx with rfl | hx
    · exact h.1.1
    · have := ih h.2 (by omega) x hx
      exact ⟨by omega, this.2⟩
theorem all_eq (vs : List S40) (hv : vs.length ≤ 10) {k : Nat} (hk : 1000 ≤ k) : dirty_All.f k vs = some (if rightV vs = true then vs.map maskV else []) := by
  unfold dirty_All.f
  rw [vright_eq vs (by omega) (by omega)]
  simp only [Option.bind_some]
  by_cases h : rightV vs = true
  · have h2 := h
    unfold rightV at h2
    rw [Bool.and_eq_true] at h2
    have := all_l0 vs hv (fun x hx => (rgtV_mem h2.2 (Int.le_refl _) x hx).2.2.2) vs.length 0 k [] (by omega) (by omega) (Nat.zero_le _)
    rw [List.drop_zero] at this
    rw [if_pos h, if_pos h]
    exact this
  · rw [if_neg h, if_neg h]
end Go.Proofs.YtcigkejiompieaaDoor.Dirty
