-- Printed by this session's own program wip/mprint.py
import Derived.Test.YtcigkejiompieaaDoorPx0
namespace Go.Proofs.YtcigkejiompieaaDoor.P
open Go.RowKit Go.Proofs.YtcigkejiompieaaDoorW.PrintWords Go.Proofs.YtcigkejiompieaaDoorW.PrintLast Go.Proofs.YtcigkejiompieaaDoorW.PrintMore
attribute [local go_sem] max2_int min2_int max_two min_two max_three min_three max_four min_four   -- for this text's walks alone
set_option linter.unusedVariables false
set_option linter.unusedSimpArgs false

/-! ### counterfoilref07_Small: function 4 -/
mutual
def counterfoilref07_Small.j0 : Nat → List (S40) → Bool → Option (Bool)
  | 0, _, _ => none
  | k + 1, x0, x13 => if x13 = true then (some false) else (counterfoilref07_Small.l0 k x0 0)
def counterfoilref07_Small.l0 : Nat → List (S40) → Int → Option (Bool)
  | 0, _, _ => none
  | k + 1, x0, x5 => if x5 < (x0.length : Int) then (if 0 ≤ x5 then (if (((rd_T40 x0 x5).f1).length : Int) > 100 then (some false) else (counterfoilref07_Small.l0 k x0 (wrap64 (x5 + 1)))) else (none)) else (some true)
end
def counterfoilref07_Small.f (k : Nat) (l0 : List (S40)) (l1 : List (S45)) : Option (Bool) := if (l0.length : Int) > 10 then (counterfoilref07_Small.j0 k l0 true) else (counterfoilref07_Small.j0 k l0 (decide ((l1.length : Int) > 200)))
theorem counterfoilref07_Small.mono_l : ∀ k, (∀ y0 y1, LeO (counterfoilref07_Small.j0 k y0 y1) (counterfoilref07_Small.j0 (k + 1) y0 y1)) ∧ (∀ y0 y1, LeO (counterfoilref07_Small.l0 k y0 y1) (counterfoilref07_Small.l0 (k + 1) y0 y1))
  | 0 => ⟨fun _ _ r h => by simp [counterfoilref07_Small.j0] at h, fun _ _ r h => by simp [counterfoilref07_Small.l0] at h⟩
  | k + 1 => by
    obtain ⟨ih0, ih1⟩ := counterfoilref07_Small.mono_l k
    refine ⟨?_, ?_⟩
    · intro y0 y1
      unfold counterfoilref07_Small.j0
      repeat' first
      | (with_reducible exact ih0 _ _)
      | (with_reducible exact ih1 _ _)
      | (with_reducible exact LeO.refl _)
      | (with_reducible exact LeO.none _)
      | (with_reducible refine LeO.ite ?_ ?_)
      | (with_reducible refine LeO.bind ?_ (fun _ => ?_))
      | exact ih0 _ _
      | exact ih1 _ _
      | exact LeO.none _
      | refine LeO.ite ?_ ?_
      | refine LeO.bind ?_ (fun _ => ?_)
    · intro y0 y1
      unfold counterfoilref07_Small.l0
      repeat' first
      | (with_reducible exact ih0 _ _)
      | (with_reducible exact ih1 _ _)
      | (with_reducible exact LeO.refl _)
      | (with_reducible exact LeO.none _)
      | (with_reducible refine LeO.ite ?_ ?_)
      | (with_reducible refine LeO.bind ?_ (fun _ => ?_))
      | exact ih0 _ _
      | exact ih1 _ _
      | exact LeO.none _
      | refine LeO.ite ?_ ?_
      | refine LeO.bind ?_ (fun _ => ?_)
theorem counterfoilref07_Small.mono : ∀ a0 a1 k, LeO (counterfoilref07_Small.f k a0 a1) (counterfoilref07_Small.f (k + 1) a0 a1) := by
  intro a0 a1 k
  obtain ⟨ih0, ih1⟩ := counterfoilref07_Small.mono_l k
  unfold counterfoilref07_Small.f
  repeat' first
      | (with_reducible exact ih0 _ _)
      | (with_reducible exact ih1 _ _)
      | (with_reducible exact LeO.refl _)
      | (with_reducible exact LeO.none _)
      | (with_reducible refine LeO.ite ?_ ?_)
      | (with_reducible refine LeO.bind ?_ (fun _ => ?_))
      | exact ih0 _ _
      | exact ih1 _ _
      | exact LeO.none _
      | refine LeO.ite ?_ ?_
      | refine LeO.bind ?_ (fun _ => ?_)
set_option maxHeartbeats 8000000 in
set_option maxRecDepth 100000 in
theorem counterfoilref07_Small.calls (k : Nat) (A0 : Option Addr) (c0 : Nat) (l0 : List (S40)) (A1 : Option Addr) (c1 : Nat) (l1 : List (S45)) (r : Bool) (w : World) (hr0 : Kd.C k40 w A0 l0.length l0) (hc0 : l0.length ≤ c0) (hr1 : Kd.C k45 w A1 l1.length l1) (hc1 : l1.length ≤ c1) (h : counterfoilref07_Small.f k l0 l1 = some r) :
    Calls Tryd.prog 4 #[.slice A0 l0.length c0, .slice A1 l1.length c1] w fun e w' => e = .returned (.bool r) ∧ Drawn0 w w' := by
  have HR0 := Aside0.mk hr0
  have HC0 := Aside0.mk hc0
  clear hr0 hc0
  have HR1 := Aside0.mk hr1
  have HC1 := Aside0.mk hc1
  clear hr1 hc1
  have H : (if (l0.length : Int) > 10 then (counterfoilref07_Small.j0 k l0 true) else (counterfoilref07_Small.j0 k l0 (decide ((l1.length : Int) > 200)))) = some r := h
  clear h
  have HC3 := Aside0.mk H
  clear H
  go_enter Tryd.func4, Tryd.ntmps4
  go_upto_region 1 with (fail)
  go_cut [13] (fun v13 wc => ∃ (kq : Nat) (x13_2 : Bool), v13 = .bool x13_2 ∧ Aside0 (counterfoilref07_Small.j0 kq l0 x13_2 = some r) ∧ Aside0 (kq ≤ k) ∧ Drawn0 w wc)
  case first =>
    have H := HC3.out
    clear HC3
    by_cases c4 : (l0.length : Int) > 10
    · rw [if_pos c4] at H
      have c4b0 : decide (10 < (l0.length : Int)) = true := decide_eq_true c4
      have c4b1 : decide (10 < l0.length) = true := decide_eq_true (by omega)
      clear c4
      (first | rw [c4b0] | (simp only [i64_w, i32_w]; rw [c4b0]) | skip)
      have H' := Aside0.mk H
      clear H
      go_wp2
      go_meet
      case rel => exact ⟨_, (true), (by first | rfl | (simp; done) | (simp [*]; done)), H', ⟨by first | omega | exact Nat.le_refl _⟩, by repeat (first | exact Drawn0.refl _ | apply Drawn0.step)⟩
    · rw [if_neg c4] at H
      have c4b0 : decide (10 < (l0.length : Int)) = false := decide_eq_false c4
      have c4b1 : decide (10 < l0.length) = false := decide_eq_false (by omega)
      clear c4
      (first | rw [c4b0] | (simp only [i64_w, i32_w]; rw [c4b0]) | skip)
      have H' := Aside0.mk H
      clear H
      go_wp2
      go_meet
      case rel => exact ⟨_, (decide ((l1.length : Int) > 200)), (by first | rfl | (simp; done) | (simp [*]; done)), H', ⟨by first | omega | exact Nat.le_refl _⟩, by repeat (first | exact Drawn0.refl _ | apply Drawn0.step)⟩
  case rest =>
    clear HC3
    try clear c1
    try clear p2
    try clear c4
    try clear c4b0
    try clear c4b1
    obtain ⟨kq, x13_2, rfl, HA, HJ2, ⟨mc2, rfl⟩⟩ := hcut
    cases kq with
    | zero => exact absurd HA.out (by simp [counterfoilref07_Small.j0])
    | succ kj2 =>
      have H := HA.out
      clear HA
      simp only [counterfoilref07_Small.j0] at H
      by_cases c5 : x13_2 = true
      · subst c5
        have H1 : (some false) = some r := by rw [if_pos rfl] at H; exact H
        clear H
        have H := H1
        clear H1
        obtain rfl := Option.some.inj H
        go_wp2
        go_ret
        exact ⟨by first | rfl | (simp; done) | (simp [*]; done), by repeat (first | exact Drawn0.refl _ | apply Drawn0.step)⟩
      · replace c5 := Bool.eq_false_iff.mpr c5
        subst c5
        have H1 : (counterfoilref07_Small.l0 kj2 l0 0) = some r := by rw [if_neg (show ¬ (false = true) by decide)] at H; exact H
        clear H
        have H := H1
        clear H1
        have H' := Aside0.mk H
        clear H
        go_wp2
        go_loopg [5] kj2 (fun kq v5 w' => ∃ (x5_2 : Int), v5 = .int .i64 x5_2 ∧ Aside0 (counterfoilref07_Small.l0 kq l0 x5_2 = some r) ∧ Aside0 (kq ≤ kj2) ∧ Drawn0 w w')
        case atStart => exact ⟨(0), (by first | rfl | (simp; done) | (simp [*]; done)), H', ⟨Nat.le_refl _⟩, by repeat (first | exact Drawn0.refl _ | apply Drawn0.step)⟩
        case round =>
          clear H'
          try clear c1
          try clear c2
          try clear p2
          try clear c4
          try clear c4b0
          try clear c4b1
          try clear c5
          try clear p2
          obtain ⟨x5_2, rfl, HA, HK2, ⟨m2, rfl⟩⟩ := hrel
          cases gk with
          | zero => exact absurd HA.out (by simp [counterfoilref07_Small.l0])
          | succ k2 =>
            have H := HA.out
            clear HA
            simp only [counterfoilref07_Small.l0] at H
            by_cases c6 : x5_2 < (l0.length : Int)
            · rw [if_pos c6] at H
              have c6b0 : decide (x5_2 < (l0.length : Int)) = true := decide_eq_true c6
              clear c6
              by_cases c7 : 0 ≤ x5_2
              · rw [if_pos c7] at H
                have c7b0 : decide (0 ≤ x5_2) = true := decide_eq_true c7
                clear c7
                by_cases c8 : (((rd_T40 l0 x5_2).f1).length : Int) > 100
                · rw [if_pos c8] at H
                  have c8b0 : decide (100 < (((rd_T40 l0 x5_2).f1).length : Int)) = true := decide_eq_true c8
                  have c8b1 : decide (100 < ((rd_T40 l0 x5_2).f1).length) = true := decide_eq_true (by omega)
                  clear c8
                  obtain rfl := Option.some.inj H
                  have p101 : 0 ≤ (x5_2 : Int) := of_decide_eq_true (by first | (with_reducible assumption) | assumption)
                  have q101 : x5_2 < (l0.length : Int) := of_decide_eq_true (by first | (with_reducible assumption) | assumption)
                  obtain ⟨ad101, A101_1, c101_1, e101, hx101_0, hx101_1, hl101_1, hi101_1⟩ := at_T40 HR0.out x5_2 p101 q101
                  cases e101
                  have HR101_1 := Aside0.mk hi101_1
                  have HC101_1 := Aside0.mk hl101_1
                  clear hi101_1 hl101_1
                  replace p101 := eq_true p101
                  replace q101 := eq_true q101
                  go_wp2
                  go_ret
                  exact ⟨by first | rfl | (simp; done) | (simp [*]; done), by repeat (first | exact Drawn0.refl _ | apply Drawn0.step)⟩
                · rw [if_neg c8] at H
                  have c8b0 : decide (100 < (((rd_T40 l0 x5_2).f1).length : Int)) = false := decide_eq_false c8
                  have c8b1 : decide (100 < ((rd_T40 l0 x5_2).f1).length) = false := decide_eq_false (by omega)
                  clear c8
                  have H' := Aside0.mk H
                  clear H
                  have p101 : 0 ≤ (x5_2 : Int) := of_decide_eq_true (by first | (with_reducible assumption) | assumption)
                  have q101 : x5_2 < (l0.length : Int) := of_decide_eq_true (by first | (with_reducible assumption) | assumption)
                  obtain ⟨ad101, A101_1, c101_1, e101, hx101_0, hx101_1, hl101_1, hi101_1⟩ := at_T40 HR0.out x5_2 p101 q101
                  cases e101
                  have HR101_1 := Aside0.mk hi101_1
                  have HC101_1 := Aside0.mk hl101_1
                  clear hi101_1 hl101_1
                  replace p101 := eq_true p101
                  replace q101 := eq_true q101
                  go_wp2
                  go_roundg k2
                  case measure => have := HJ2.out; have := HK2.out; omega
                  case rel => exact ⟨(wrap64 (x5_2 + 1)), (by first | rfl | (simp; done) | (simp [*]; done)), H', ⟨by have := HJ2.out; have := HK2.out; omega⟩, by repeat (first | exact Drawn0.refl _ | apply Drawn0.step)⟩
              · rw [if_neg c7] at H
                exact absurd H (by simp)
            · rw [if_neg c6] at H
              have c6b0 : decide (x5_2 < (l0.length : Int)) = false := decide_eq_false c6
              clear c6
              obtain rfl := Option.some.inj H
              go_wp2
              go_ret
              exact ⟨by first | rfl | (simp; done) | (simp [*]; done), by repeat (first | exact Drawn0.refl _ | apply Drawn0.step)⟩

/-! ### dirty_block: function 23 -/
def dirty_block.f (a0 : Int) (a1 : Int) : Option (Bool) := if a0 ≥ 1 then (if a0 ≤ 255 then (if a1 ≥ 0 then (some (decide (a1 < 32))) else (some false)) else (some false)) else (some false)
set_option maxHeartbeats 8000000 in
set_option maxRecDepth 100000 in
theorem dirty_block.calls (a0 : Int) (a1 : Int) (r : Bool) (w : World) (h : dirty_block.f a0 a1 = some r) :
    Calls Tryd.prog 23 #[.int .i64 a0, .int .i64 a1] w fun e w' => e = .returned (.bool r) ∧ Drawn0 w w' := by
  have H : (if a0 ≥ 1 then (if a0 ≤ 255 then (if a1 ≥ 0 then (some (decide (a1 < 32))) else (some false)) else (some false)) else (some false)) = some r := h
  clear h
  by_cases c3 : a0 ≥ 1
  · rw [if_pos c3] at H
    have c3b0 : decide (1 ≤ a0) = true := decide_eq_true c3
    clear c3
    by_cases c4 : a0 ≤ 255
    · rw [if_pos c4] at H
      have c4b0 : decide (a0 ≤ 255) = true := decide_eq_true c4
      clear c4
      by_cases c5 : a1 ≥ 0
      · rw [if_pos c5] at H
        have c5b0 : decide (0 ≤ a1) = true := decide_eq_true c5
        clear c5
        obtain rfl := Option.some.inj H
        go_enter Tryd.func23, Tryd.ntmps23
        go_wp2
        go_ret
        exact ⟨by first | rfl | (simp; done) | (simp [*]; done), by repeat (first | exact Drawn0.refl _ | apply Drawn0.step)⟩
      · rw [if_neg c5] at H
        have c5b0 : decide (0 ≤ a1) = false := decide_eq_false c5
        clear c5
        obtain rfl := Option.some.inj H
        go_enter Tryd.func23, Tryd.ntmps23
        go_wp2
        go_ret
        exact ⟨by first | rfl | (simp; done) | (simp [*]; done), by repeat (first | exact Drawn0.refl _ | apply Drawn0.step)⟩
    · rw [if_neg c4] at H
      have c4b0 : decide (a0 ≤ 255) = false := decide_eq_false c4
      clear c4
      obtain rfl := Option.some.inj H
      go_enter Tryd.func23, Tryd.ntmps23
      go_wp2
      go_ret
      exact ⟨by first | rfl | (simp; done) | (simp [*]; done), by repeat (first | exact Drawn0.refl _ | apply Drawn0.step)⟩
  · rw [if_neg c3] at H
    have c3b0 : decide (1 ≤ a0) = false := decide_eq_false c3
    clear c3
    obtain rfl := Option.some.inj H
    go_enter Tryd.func23, Tryd.ntmps23
    go_wp2
    go_ret
    exact ⟨by first | rfl | (simp; done) | (simp [*]; done), by repeat (first | exact Drawn0.refl _ | apply Drawn0.step)⟩

-- NOT PRINTED: function 24 (dirty_masks_bits)

/-! ### dirty_Of: function 14 -/
/-! The block of the masks: one number for each volume -/
def mrow (T : Nat → Int) : Array Value := ((List.range 256).map fun j => Value.int .u64 (T j)).toArray
theorem mrow_size (T : Nat → Int) : (mrow T).size = 256 := by simp [mrow]
theorem mrow_get (T : Nat → Int) (j : Nat) (hj : j < 256) : (mrow T)[j]? = some (.int .u64 (T j)) := by simp [mrow, hj]
def upd (T : Nat → Int) (i : Nat) (x : Int) : Nat → Int := fun j => if j = i then x else T j
theorem mrow_set (T : Nat → Int) (i : Nat) (x : Int) (hi : i < 256) : (mrow T).setIfInBounds i (.int .u64 x) = mrow (upd T i x) := by
  apply Array.ext_getElem?
  intro j
  rw [Array.getElem?_setIfInBounds]
  by_cases hj : j < 256
  · rw [mrow_get _ _ hj, mrow_get _ _ hj, mrow_size]
    by_cases he : i = j
    · subst he; simp [hi, upd]
    · rw [if_neg he]; simp [upd, show ¬ j = i from fun h => he h.symm]
  · rw [Array.getElem?_eq_none (by rw [mrow_size]; omega), Array.getElem?_eq_none (by rw [mrow_size]; omega), if_neg (by omega)]
theorem mrow_cell {W : World} {g : Nat} {T : Nat → Int} {t : TypeId} (h : W.heap[g]? = some (.cells (mrow T) t (0, 0))) (j : Nat) (hj : j < 256) : W.cell? ⟨g, j, none⟩ = some (.int .u64 (T j)) := (blk_cell h j).trans (mrow_get T j hj)
/-- The list of the masks of the volumes below j. -/
def bitsTo (T : Nat → Int) : Nat → List S48
  | 0 => []
  | j + 1 => if T j = 0 then bitsTo T j else bitsTo T j ++ [(⟨(j : Int), T j⟩ : S48)]
theorem bitsTo_len (T : Nat → Int) (j : Nat) : (bitsTo T j).length ≤ j := by
  induction j with
  | zero => exact Nat.le_refl _
  | succ j ih =>
    unfold bitsTo
    split
    · omega
    · rw [List.length_append, List.length_singleton]; omega
set_option maxHeartbeats 4000000 in
set_option maxRecDepth 100000 in
theorem masks_bits.calls (g : Nat) (T : Nat → Int) (w : World) (hg : w.heap[g]? = some (.cells (mrow T) 56 (0, 0))) :
    Calls Tryd.prog 24 #[.pointer (some ⟨g, 0, none⟩)] w fun e w' => ∃ v : Value, e = .returned v ∧ Kd.R k48 48 w' w.heap.size (fun _ => True) v (bitsTo T 256) ∧ Below w.heap.size w w' := by
  have HG0 := Aside0.mk hg
  have HB := Aside0.mk (Below.refl w.heap.size w)
  clear hg
  go_enter Tryd.func24, Tryd.ntmps24
  go_wp2
  go_loopw [3, 7] (fun v i wr => ∃ j : Nat, j ≤ 256 ∧ i = .int .i64 j ∧ Aside0 (Kd.R k48 48 wr w.heap.size (fun _ => True) v (bitsTo T j)) ∧ Aside0 (Below w.heap.size w wr)) (fun _ i _ => 256 - (intOf i).toNat)
  case atStart => exact ⟨0, by omega, rfl, ⟨Kd.R_nil _ _ _ _ _⟩, HB⟩
  case round =>
    obtain ⟨j, hj, rfl, HO, HW⟩ := hrel
    by_cases hj2 : j < 256
    · have c1 : decide ((j : Int) < 256) = true := decide_eq_true (by omega)
      have d1 : (0 : Int) ≤ (j : Int) := by omega
      have d2 : (j : Int) < 256 := by omega
      go_upto_region 4 with (fail)
      replace HO := Aside0.mk (Kd.R_drew HO.out)
      replace HW := Aside0.mk (below_drew1 HW.out)
      have HG := Aside0.mk (blk_below HG0.out HW.out)
      refine start_ (n := 6) (S := fun w' => w'.cell? ⟨g, j, none⟩ = some (.int .u64 (T j))) (ds := []) #[false, false, false, false, false, false] (by kernel_rfl) rfl rfl (mrow_cell HG.out j hj2) (fun hHeld => ?_)
      generalize World.drew wr = V at HG HO HW hHeld ⊢
      refine pure_ (i := 0) (N := some 9) (v := ?_) (a' := ?_) #[true, false, false, false, false, false] rfl rfl (by kernel_rfl) (fun _ _ _ h => h) (Or.inl ⟨by rfl, ?_⟩) ?_ ?_
      rotate_left
      · intro w'
        go_simp
        with_reducible rfl
      rotate_left
      · simp only [Act.put, List.setIfInBounds_toArray, List.set_cons_zero, List.set_cons_succ, i64_w, i32_w]
        rfl
      refine pure_ (i := 1) (N := some 10) (v := ?_) (a' := ?_) #[true, true, false, false, false, false] rfl rfl (by kernel_rfl) (fun _ _ _ h => h) (Or.inl ⟨by rfl, ?_⟩) ?_ ?_
      rotate_left
      · intro w'
        go_simp
        with_reducible rfl
      rotate_left
      · simp only [Act.put, List.setIfInBounds_toArray, List.set_cons_zero, List.set_cons_succ, i64_w, i32_w]
        rfl
      refine pure_ (i := 2) (N := some 11) (v := ?_) (a' := ?_) #[true, true, true, false, false, false] rfl rfl (by kernel_rfl) (fun _ _ _ h => h) (Or.inl ⟨by rfl, ?_⟩) ?_ ?_
      rotate_left
      · intro w'
        go_simp
        with_reducible rfl
      rotate_left
      · simp only [Act.put, List.setIfInBounds_toArray, List.set_cons_zero, List.set_cons_succ, i64_w, i32_w]
        rfl
      refine pure_ (i := 4) (N := some 4) (v := ?_) (a' := ?_) #[true, true, true, false, true, false] rfl rfl (by kernel_rfl) (fun _ _ _ h => h) (Or.inl ⟨by rfl, ?_⟩) ?_ ?_
      rotate_left
      · intro w'
        go_simp
        with_reducible rfl
      rotate_left
      · simp only [Act.put, List.setIfInBounds_toArray, List.set_cons_zero, List.set_cons_succ, i64_w, i32_w]
        rfl
      refine take_ (i := 3) (N := some 12) (v := ?_) (a' := ?_) #[true, true, true, true, true, false] rfl rfl (by kernel_rfl) (fun _ _ _ h => h) (Or.inl ⟨by rfl, ?_⟩) hHeld ?_ ?_
      rotate_left
      · intro w' s0
        go_simp
        with_reducible rfl
      rotate_left
      · simp only [Act.put, List.setIfInBounds_toArray, List.set_cons_zero, List.set_cons_succ, i64_w, i32_w]
        rfl
      refine pure_ (i := 5) (N := some 5) (v := ?_) (a' := ?_) #[true, true, true, true, true, true] rfl rfl (by kernel_rfl) (fun _ _ _ h => h) (Or.inl ⟨by rfl, ?_⟩) ?_ ?_
      rotate_left
      · intro w'
        go_simp
        with_reducible rfl
      rotate_left
      · simp only [Act.put, List.setIfInBounds_toArray, List.set_cons_zero, List.set_cons_succ, i64_w, i32_w]
        rfl
      refine done_ (by kernel_rfl) ?_
      by_cases hz : T j = 0
      · have c2 : (T j != 0) = false := bne_eq_false_iff_eq.2 hz
        go_wp2
        go_roundw
        case rel => exact ⟨j + 1, by omega, by go_num, ⟨by have h := HO.out; unfold bitsTo; rw [if_pos hz]; exact h⟩, HW⟩
        case measure => simp [intOf]; omega
      · have c2 : (T j != 0) = true := bne_iff_ne.2 hz
        have hlen := Aside0.mk (bitsTo_len T j)
        go_wp2_with ((with_reducible refine gate_builtin (b := .append) (xs := #[.tmp 15, .tmp 19]) rfl ?_); at_builtin; refine Kd.R_append k48 (w0 := w) w.heap.size rfl (.tmp 15) (.tmp 19) 22 48 (.agg #[(.int .i64 0), (.int .u64 0)]) 16 rfl Tryd.underlying22 info48 rfl (by decide) (by omega) u3 (bitsTo T j) (⟨(j : Int), T j⟩ : S48) [.int .i64 (j : Int), .int .u64 (T j)] (fun _ => True) (fun _ => False) rfl rfl ?aP (fun _ hk => hk.elim) ?aF ?aO ?aB ?aS ?aL ?_; (case aP => exact k48_mkM _ _ _ (⟨(j : Int), T j⟩ : S48)); (case aB => exact HW.out); (case aF => exact (fun _ _ => trivial)); (case aO => exact HO.out); (case aS => exact below_size HW.out); (case aL => have := hlen.out; omega); intro v1 w1 ho hb hg hat; have HO1 := Aside0.mk ho; have HW1 := Aside0.mk hb; clear ho hb hg hat)
        go_roundw
        case rel => exact ⟨j + 1, by omega, by go_num, ⟨by have h := HO1.out; unfold bitsTo; rw [if_neg hz]; exact h⟩, HW1⟩
        case measure => simp [intOf]; omega
    · obtain rfl : j = 256 := by omega
      go_wp2
      go_ret
      exact ⟨_, rfl, HO.out, HW.out⟩
/-! spread -/
def orOne (T : Nat → Int) (b : S48) : Nat → Int := upd T b.f0.toNat (Go.bits .or .u64 (T b.f0.toNat) b.f1)
def orAll (T : Nat → Int) (m : List S48) : Nat → Int := m.foldl orOne T
def spr (T : Nat → Int) (m : List S48) (i : Nat) : Nat → Int := orAll T (m.take i)
theorem spr_succ (T : Nat → Int) (m : List S48) (i : Nat) (h : i < m.length) : spr T m (i + 1) = orOne (spr T m i) (rd_T48 m (i : Int)) := by
  have hd : rd_T48 m (i : Int) = m[i] := by
    unfold rd_T48
    rw [Int.toNat_natCast, List.getD_eq_getElem?_getD, List.getElem?_eq_getElem h]
    rfl
  unfold spr orAll
  rw [List.take_add_one, List.getElem?_eq_getElem h, hd, List.foldl_append]
  rfl
theorem spr_all (T : Nat → Int) (m : List S48) : spr T m m.length = orAll T m := by unfold spr; rw [List.take_length]
theorem rd_mem (m : List S48) (i : Nat) (h : i < m.length) : rd_T48 m (i : Int) ∈ m := by
  unfold rd_T48
  rw [Int.toNat_natCast, List.getD_eq_getElem?_getD, List.getElem?_eq_getElem h]
  exact List.getElem_mem h
def zeros : Nat → Int := fun _ => 0
def sprL (L : List (List S48)) (j : Nat) : Nat → Int := (L.take j).foldl orAll zeros
theorem sprL_succ (L : List (List S48)) (j : Nat) (h : j < L.length) : sprL L (j + 1) = orAll (sprL L j) L[j] := by
  unfold sprL
  rw [List.take_add_one, List.getElem?_eq_getElem h, List.foldl_append]
  rfl
/-- Masks whose volumes are places of the block. -/
def inB (m : List S48) : Prop := ∀ b ∈ m, 0 ≤ b.f0 ∧ b.f0 < 256
theorem infoZ : (Tryd.prog.info? 56).map (·.zero) = some (some (.agg (mrow zeros))) := by kernel_rfl
theorem run_zero_of {P : Program} {T : TypeId} {cs : Array Value} (h : (P.info? T).map (·.zero) = some (some (.agg cs))) : ∀ W : World, (zeroValue T).run P W = .ok (.agg cs) W := by
  intro W
  obtain ⟨i, hi, hz⟩ := Option.map_eq_some_iff.1 h
  simp [zeroValue, typeInfo, hi, hz]
def SprI (w W : World) (T : Nat → Int) : Prop := W.heap[w.heap.size]? = some (.cells (mrow T) 56 (0, 0)) ∧ Below w.heap.size w W
set_option maxHeartbeats 4000000 in
set_option maxRecDepth 100000 in
theorem dirty_spread.calls (gl n c : Nat) (L : List (List S48)) (w : World) (hn : n = L.length) (hLn : L.length ≤ 4611686018427387904)
    (hl : ∀ (j : Nat) (h : j < L.length), ∃ A c, w.cell? ⟨gl, j, none⟩ = some (.slice A (L[j]).length c) ∧ Kd.C k48 w A (L[j]).length L[j]) (hv : ∀ m ∈ L, inB m) :
    Calls Tryd.prog 21 #[.slice (some ⟨gl, 0, none⟩) n c] w fun e w' => e = .returned (.pointer (some ⟨w.heap.size, 0, none⟩)) ∧ w'.heap[w.heap.size]? = some (.cells (mrow (sprL L L.length)) 56 (0, 0)) ∧ Below w.heap.size w w' := by
  subst hn
  have HL := Aside0.mk hl
  have HLn := Aside0.mk hLn
  clear hLn
  have HV := Aside0.mk hv
  clear hl hv
  have hz := run_zero_of infoZ
  obtain ⟨Z, hZ⟩ : ∃ Z, Z = mrow zeros := ⟨_, rfl⟩
  rw [← hZ] at hz
  have h0 := Aside0.mk (below_alloc (Below.refl w.heap.size w) (.cells Z 56 (0, 0)))
  have h1 := Aside0.mk (blk_new w (.cells Z 56 (0, 0)))
  replace hZ := Aside0.mk hZ
  go_enter Tryd.func21, Tryd.ntmps21
  go_upto_region 2 with (fail)
  generalize w.alloc (.cells Z 56 (0, 0)) = w1 at h0 h1 ⊢
  have HI0 : Aside0 (SprI w w1 (sprL L 0)) := ⟨by have h := h1.out; rw [hZ.out] at h; have h' := h0.out; exact ⟨h, h'⟩⟩
  clear h0 h1 hz hZ
  go_wp2
  go_loopw [10] (fun i wr => ∃ j : Nat, j ≤ L.length ∧ i = .int .i64 j ∧ Aside0 (SprI w wr (sprL L j))) (fun i _ => L.length - (intOf i).toNat)
  case atStart => exact ⟨0, by omega, rfl, HI0⟩
  case round =>
    obtain ⟨j, hj, rfl, HI⟩ := hrel
    have hLn := HLn.out
    by_cases hj2 : j < L.length
    · have c1 : decide ((j : Int) < (L.length : Int)) = true := decide_eq_true (by omega)
      have d1 : (0 : Int) ≤ (j : Int) := by omega
      have d2 : (j : Int) < (L.length : Int) := by omega
      obtain ⟨A, c2, hcl, hC⟩ := HL.out j hj2
      obtain ⟨m, hm⟩ : ∃ m, m = L[j] := ⟨_, rfl⟩
      rw [← hm] at hcl hC
      have HM := Aside0.mk hC
      have HB := Aside0.mk (show inB m from hm ▸ HV.out _ (List.getElem_mem hj2))
      have HN := Aside0.mk (show sprL L (j + 1) = orAll (sprL L j) m from hm ▸ sprL_succ L j hj2)
      replace hcl := (HI.out.2.cell (World.block_lt_of_cell? w _ hcl)).trans hcl
      clear hC hm
      obtain ⟨T0, hT0⟩ : ∃ T0, T0 = sprL L j := ⟨_, rfl⟩
      rw [← hT0] at HI HN
      clear hT0
      go_upto_region 6 with (fail)
      go_loopw [16] (fun i wr => ∃ i' : Nat, i' ≤ m.length ∧ i = .int .i64 i' ∧ Aside0 (SprI w wr (spr T0 m i'))) (fun i _ => m.length - (intOf i).toNat)
      case atStart => exact ⟨0, by omega, rfl, HI⟩
      case round =>
        obtain ⟨i, hi, rfl, HI2⟩ := hrel
        have hmn : m.length ≤ 9223372036854775807 := HM.out.2.1
        by_cases hi2 : i < m.length
        · have c3 : decide ((i : Int) < (m.length : Int)) = true := decide_eq_true (by omega)
          have d5 : (0 : Int) ≤ (i : Int) := by omega
          have d6 : (i : Int) < (m.length : Int) := by omega
          obtain ⟨b, hb⟩ : ∃ b, b = rd_T48 m (i : Int) := ⟨_, rfl⟩
          have HS := Aside0.mk (show spr T0 m (i + 1) = orOne (spr T0 m i) b from hb ▸ spr_succ T0 m i hi2)
          obtain ⟨d7, d8⟩ := HB.out b (hb ▸ rd_mem m i hi2)
          obtain ⟨v, hv⟩ := Int.eq_ofNat_of_zero_le d7
          obtain ⟨ad, hA, x0, x1⟩ := at_T48 HM.out (i : Int) d5 d6
          rw [← hb, hv] at x0
          rw [← hb] at x1
          rw [Int.toNat_natCast] at x0 x1
          subst hA
          replace x0 := (HI2.out.2.cell (World.block_lt_of_cell? w _ x0)).trans x0
          replace x1 := (HI2.out.2.cell (World.block_lt_of_cell? w _ x1)).trans x1
          have d4 : v < 256 := by omega
          have d9 : (0 : Int) ≤ (v : Int) := by omega
          have d10 : (v : Int) < 256 := by omega
          have Hv := Aside0.mk hv
          clear hb hv d7 d8
          obtain ⟨T, hT⟩ : ∃ T, T = spr T0 m i := ⟨_, rfl⟩
          rw [← hT] at HI2 HS
          clear hT
          have HT := Aside0.mk (blk_alloc HI2.out.1 (.cells #[.int .i64 (v : Int), .int .u64 b.f1] 48 (0, 0)))
          have HBb := Aside0.mk (blk_new wr (.cells #[.int .i64 (v : Int), .int .u64 b.f1] 48 (0, 0)))
          have HW := Aside0.mk (below_alloc HI2.out.2 (.cells #[.int .i64 (v : Int), .int .u64 b.f1] 48 (0, 0)))
          go_upto_region 8 with (fail)
          replace HT := Aside0.mk (blk_drew HT.out)
          replace HBb := Aside0.mk (blk_drew HBb.out)
          replace HW := Aside0.mk (below_drew1 HW.out)
          generalize wr.alloc (.cells #[.int .i64 (v : Int), .int .u64 b.f1] 48 (0, 0)) = Wb at HT HBb HW ⊢
          generalize wr.heap.size = gb at HBb ⊢
          refine start_ (n := 9) (S := fun w' => w'.cell? ⟨gb, 0, none⟩ = some (.int .i64 (v : Int)) ∧ w'.cell? ⟨gb, 1, none⟩ = some (.int .u64 b.f1) ∧ w'.cell? ⟨w.heap.size, v, none⟩ = some (.int .u64 (T v))) (ds := [8]) #[false, false, false, false, false, false, false, false, false] (by kernel_rfl) rfl rfl ⟨(blk_cell HBb.out 0).trans rfl, (blk_cell HBb.out 1).trans rfl, mrow_cell HT.out v d4⟩ (fun hHeld => ?_)
          generalize World.drew Wb = V at HT HBb HW hHeld ⊢
          refine pure_ (i := 0) (N := some 20) (v := ?_) (a' := ?_) #[true, false, false, false, false, false, false, false, false] rfl rfl (by kernel_rfl) (fun _ _ _ h => h) (Or.inl ⟨by rfl, ?_⟩) ?_ ?_
          rotate_left
          · intro w'
            go_simp
            with_reducible rfl
          rotate_left
          · simp only [Act.put, List.setIfInBounds_toArray, List.set_cons_zero, List.set_cons_succ, i64_w, i32_w]
            rfl
          refine pure_ (i := 4) (N := some 24) (v := ?_) (a' := ?_) #[true, false, false, false, true, false, false, false, false] rfl rfl (by kernel_rfl) (fun _ _ _ h => h) (Or.inl ⟨by rfl, ?_⟩) ?_ ?_
          rotate_left
          · intro w'
            go_simp
            with_reducible rfl
          rotate_left
          · simp only [Act.put, List.setIfInBounds_toArray, List.set_cons_zero, List.set_cons_succ, i64_w, i32_w]
            rfl
          refine take_ (i := 1) (N := some 21) (v := ?_) (a' := ?_) #[true, true, false, false, true, false, false, false, false] rfl rfl (by kernel_rfl) (fun _ _ _ h => h) (Or.inl ⟨by rfl, ?_⟩) hHeld ?_ ?_
          rotate_left
          · rintro w' ⟨s0, s1, s2⟩
            go_simp
            with_reducible rfl
          rotate_left
          · simp only [Act.put, List.setIfInBounds_toArray, List.set_cons_zero, List.set_cons_succ, i64_w, i32_w]
            rfl
          refine pure_ (i := 2) (N := some 22) (v := ?_) (a' := ?_) #[true, true, true, false, true, false, false, false, false] rfl rfl (by kernel_rfl) (fun _ _ _ h => h) (Or.inl ⟨by rfl, ?_⟩) ?_ ?_
          rotate_left
          · intro w'
            go_simp
            with_reducible rfl
          rotate_left
          · simp only [Act.put, List.setIfInBounds_toArray, List.set_cons_zero, List.set_cons_succ, i64_w, i32_w]
            rfl
          refine take_ (i := 3) (N := some 23) (v := ?_) (a' := ?_) #[true, true, true, true, true, false, false, false, false] rfl rfl (by kernel_rfl) (fun _ _ _ h => h) (Or.inl ⟨by rfl, ?_⟩) hHeld ?_ ?_
          rotate_left
          · rintro w' ⟨s0, s1, s2⟩
            go_simp
            with_reducible rfl
          rotate_left
          · simp only [Act.put, List.setIfInBounds_toArray, List.set_cons_zero, List.set_cons_succ, i64_w, i32_w]
            rfl
          refine take_ (i := 5) (N := some 25) (v := ?_) (a' := ?_) #[true, true, true, true, true, true, false, false, false] rfl rfl (by kernel_rfl) (fun _ _ _ h => h) (Or.inl ⟨by rfl, ?_⟩) hHeld ?_ ?_
          rotate_left
          · rintro w' ⟨s0, s1, s2⟩
            go_simp
            with_reducible rfl
          rotate_left
          · simp only [Act.put, List.setIfInBounds_toArray, List.set_cons_zero, List.set_cons_succ, i64_w, i32_w]
            rfl
          refine pure_ (i := 6) (N := some 26) (v := ?_) (a' := ?_) #[true, true, true, true, true, true, true, false, false] rfl rfl (by kernel_rfl) (fun _ _ _ h => h) (Or.inl ⟨by rfl, ?_⟩) ?_ ?_
          rotate_left
          · intro w'
            go_simp
            with_reducible rfl
          rotate_left
          · simp only [Act.put, List.setIfInBounds_toArray, List.set_cons_zero, List.set_cons_succ, i64_w, i32_w]
            rfl
          refine pure_ (i := 7) (N := some 27) (v := ?_) (a' := ?_) #[true, true, true, true, true, true, true, true, false] rfl rfl (by kernel_rfl) (fun _ _ _ h => h) (Or.inl ⟨by rfl, ?_⟩) ?_ ?_
          rotate_left
          · intro w'
            go_simp
            with_reducible rfl
          rotate_left
          · simp only [Act.put, List.setIfInBounds_toArray, List.set_cons_zero, List.set_cons_succ, i64_w, i32_w]
            rfl
          refine last_ (i := 8) (N := none) #[true, true, true, true, true, true, true, true, true] rfl rfl (by kernel_rfl) (by decide) (fun K hK => ?_)
          have hct : V.cell? ⟨w.heap.size, v, none⟩ = some (.int .u64 (T v)) := mrow_cell HT.out v d4
          have hft : V.frozen? ⟨w.heap.size, v, none⟩ = false := blk_frozen HT.out v
          refine skip_ (w1 := ?_) (by rfl) rfl ?_ ?_
          rotate_left
          · go_simp
            rfl
          refine hK.out _ _ ?_
          clear hK K
          refine done_ (by kernel_rfl) ?_
          go_wp2
          go_roundw
          case rel =>
            refine ⟨i + 1, by omega, by go_num, ⟨?_, below_set HW.out (Nat.le_refl _)⟩⟩
            rw [HS.out]
            unfold orOne
            rw [Hv.out]
            exact blk_put HT.out v _ (mrow_set T v _ d4)
          case measure => simp [intOf]; omega
        · obtain rfl : i = m.length := by omega
          go_wp2
          go_roundw
          case rel => exact ⟨j + 1, by omega, by go_num, ⟨by have h := HI2.out; rw [spr_all] at h; rw [HN.out]; exact h⟩⟩
          case measure => simp [intOf]; omega
    · obtain rfl : j = L.length := by omega
      go_wp2
      go_ret
      exact ⟨rfl, HI.out.1, HI.out.2⟩
/-! Of -/
def okW (b : S45) : Prop := 1 ≤ b.f0 ∧ b.f0 ≤ 255 ∧ 0 ≤ b.f1 ∧ b.f1 < 32
instance (b : S45) : Decidable (okW b) := by unfold okW; exact inferInstance
def markOne (T : Nat → Int) (v n : Nat) : Nat → Int := upd T v (Go.bits .or .u64 (T v) (IntKind.u64.wrap (2 ^ n)))
def ofOne (T : Nat → Int) (b : S45) : Nat → Int := markOne T b.f0.toNat b.f1.toNat
def ofTo (l : List S45) (i : Nat) : Nat → Int := (l.take i).foldl ofOne zeros
theorem rd60 (m : List S45) (i : Nat) (h : i < m.length) : rd_T45 m (i : Int) = m[i] := by
  unfold rd_T45
  rw [Int.toNat_natCast, List.getD_eq_getElem?_getD, List.getElem?_eq_getElem h]
  rfl
theorem ofTo_succ (l : List S45) (i : Nat) (h : i < l.length) : ofTo l (i + 1) = ofOne (ofTo l i) (rd_T45 l (i : Int)) := by
  unfold ofTo
  rw [List.take_add_one, List.getElem?_eq_getElem h, rd60 l i h, List.foldl_append]
  rfl
theorem block_ok {b : S45} (h : okW b) : dirty_block.f b.f0 b.f1 = some true := by
  obtain ⟨h1, h2, h3, h4⟩ := h
  unfold dirty_block.f
  rw [if_pos h1, if_pos h2, if_pos h3, decide_eq_true h4]
theorem block_no {b : S45} (h : ¬ okW b) : dirty_block.f b.f0 b.f1 = some false := by
  unfold dirty_block.f
  by_cases h1 : b.f0 ≥ 1
  · rw [if_pos h1]
    by_cases h2 : b.f0 ≤ 255
    · rw [if_pos h2]
      by_cases h3 : b.f1 ≥ 0
      · rw [if_pos h3, decide_eq_false (fun h4 => h ⟨h1, h2, h3, h4⟩)]
      · rw [if_neg h3]
    · rw [if_neg h2]
  · rw [if_neg h1]
def dirty_Of.f (l : List S45) : Option (List S48 × Int) := if ∀ b ∈ l, okW b then some (bitsTo (ofTo l l.length) 256, 0) else some ([], 10)
set_option maxHeartbeats 4000000 in
set_option maxRecDepth 100000 in
theorem dirty_Of.calls (A0 : Option Addr) (c0 : Nat) (l0 : List S45) (r1 : List S48) (r2 : Int) (w : World) (hr0 : Kd.C k45 w A0 l0.length l0) (hc0 : l0.length ≤ c0) (h : dirty_Of.f l0 = some (r1, r2)) :
    Calls Tryd.prog 14 #[.slice A0 l0.length c0] w fun e w' => ∃ v0_ : Value, e = .returned (.tuple #[v0_, .int .i64 r2]) ∧ Kd.R k48 48 w' w.heap.size (fun _ => True) v0_ r1 ∧ Below w.heap.size w w' := by
  have HM := Aside0.mk hr0
  have H := Aside0.mk h
  clear hr0 h
  have hz := run_zero_of infoZ
  obtain ⟨Z, hZ⟩ : ∃ Z, Z = mrow zeros := ⟨_, rfl⟩
  rw [← hZ] at hz
  have h0 := Aside0.mk (below_alloc (Below.refl w.heap.size w) (.cells Z 56 (0, 0)))
  have h1 := Aside0.mk (blk_new w (.cells Z 56 (0, 0)))
  replace hZ := Aside0.mk hZ
  go_enter Tryd.func14, Tryd.ntmps14
  go_upto_region 2 with (fail)
  generalize w.alloc (.cells Z 56 (0, 0)) = w1 at h0 h1 ⊢
  have HI0 : Aside0 (SprI w w1 (ofTo l0 0)) := ⟨by have h := h1.out; rw [hZ.out] at h; have h' := h0.out; exact ⟨h, h'⟩⟩
  clear h0 h1 hz hZ
  go_wp2
  go_loopw [9] (fun i wr => ∃ j : Nat, j ≤ l0.length ∧ i = .int .i64 j ∧ Aside0 (SprI w wr (ofTo l0 j)) ∧ Aside0 (∀ b ∈ l0.take j, okW b)) (fun i _ => l0.length - (intOf i).toNat)
  case atStart => exact ⟨0, by omega, rfl, HI0, ⟨fun b hb => by simp at hb⟩⟩
  case round =>
    obtain ⟨i, hi, rfl, HI2, HK⟩ := hrel
    have hmn : l0.length ≤ 9223372036854775807 := HM.out.2.1
    by_cases hi2 : i < l0.length
    · have c3 : decide ((i : Int) < (l0.length : Int)) = true := decide_eq_true (by omega)
      have d5 : (0 : Int) ≤ (i : Int) := by omega
      have d6 : (i : Int) < (l0.length : Int) := by omega
      obtain ⟨b, hb⟩ : ∃ b, b = rd_T45 l0 (i : Int) := ⟨_, rfl⟩
      have hbm : b ∈ l0 := by rw [hb, rd60 l0 i hi2]; exact List.getElem_mem hi2
      have HS := Aside0.mk (show ofTo l0 (i + 1) = ofOne (ofTo l0 i) b from hb ▸ ofTo_succ l0 i hi2)
      have HK2 : Aside0 (okW b → ∀ b' ∈ l0.take (i + 1), okW b') := ⟨by
        intro ho b' hb'
        rw [List.take_add_one, List.getElem?_eq_getElem hi2, List.mem_append] at hb'
        rcases hb' with hb' | hb'
        · exact HK.out b' hb'
        · simp at hb'
          rw [hb', ← rd60 l0 i hi2, ← hb]
          exact ho⟩
      obtain ⟨ad, hA, x0, x1, x2⟩ := at_T45 HM.out (i : Int) d5 d6
      rw [← hb] at x0 x1 x2
      rw [Int.toNat_natCast] at x0 x1 x2
      subst hA
      replace x0 := (HI2.out.2.cell (World.block_lt_of_cell? w _ x0)).trans x0
      replace x1 := (HI2.out.2.cell (World.block_lt_of_cell? w _ x1)).trans x1
      replace x2 := (HI2.out.2.cell (World.block_lt_of_cell? w _ x2)).trans x2
      obtain ⟨T, hT⟩ : ∃ T, T = ofTo l0 i := ⟨_, rfl⟩
      rw [← hT] at HI2 HS
      clear hT hb
      have Hbm := Aside0.mk hbm
      clear hbm
      have HT := Aside0.mk (blk_alloc HI2.out.1 (.cells #[.int .i64 b.f0, .int .i64 b.f1, .string b.f2] 45 (0, 0)))
      have HBb := Aside0.mk (blk_new wr (.cells #[.int .i64 b.f0, .int .i64 b.f1, .string b.f2] 45 (0, 0)))
      have HW := Aside0.mk (below_alloc HI2.out.2 (.cells #[.int .i64 b.f0, .int .i64 b.f1, .string b.f2] 45 (0, 0)))
      go_upto_region 5 with (fail)
      generalize wr.alloc (.cells #[.int .i64 b.f0, .int .i64 b.f1, .string b.f2] 45 (0, 0)) = Wa at HT HBb HW ⊢
      generalize wr.heap.size = gb at HBb ⊢
      have xa : Wa.cell? ⟨gb, 0, none⟩ = some (.int .i64 b.f0) := (blk_cell HBb.out 0).trans rfl
      have xb : Wa.cell? ⟨gb, 1, none⟩ = some (.int .i64 b.f1) := (blk_cell HBb.out 1).trans rfl
      clear HI2 x0 x1 x2
      by_cases ho : okW b
      · go_wp2_with fail
        (with_reducible refine (dirty_block.calls b.f0 b.f1 true _ (block_ok ho)).mono ?_)
        rintro e wb ⟨rfl, ⟨nd, rfl⟩⟩
        replace HT := Aside0.mk (blk_drewN HT.out nd)
        replace HBb := Aside0.mk (blk_drewN HBb.out nd)
        replace HW := Aside0.mk (pw_below_drewN HW.out nd)
        clear xa xb
        obtain ⟨v, hv⟩ := Int.eq_ofNat_of_zero_le (show 0 ≤ b.f0 by have := ho.1; omega)
        obtain ⟨n, hn⟩ := Int.eq_ofNat_of_zero_le ho.2.2.1
        have Hvn : Aside0 (ofOne T b = markOne T v n) := ⟨by unfold ofOne; rw [hv, hn]; rfl⟩
        have HK3 := Aside0.mk (HK2.out ho)
        have d4 : v < 256 := by have := ho.2.1; omega
        have d7 : (0 : Int) ≤ (v : Int) := by omega
        have d8 : (v : Int) < 256 := by omega
        have d9 : (0 : Int) ≤ (n : Int) := by omega
        have d10 : (n : Int) ≤ 64 := by have := ho.2.2.2; omega
        rw [hv, hn] at HBb ⊢
        clear hv hn ho HK2 HK
        go_upto_region 7 with (fail)
        replace HT := Aside0.mk (blk_drew HT.out)
        replace HBb := Aside0.mk (blk_drew HBb.out)
        replace HW := Aside0.mk (below_drew1 HW.out)
        generalize Wa.drewN nd = Wb at HT HBb HW ⊢
        refine start_ (n := 10) (S := fun w' => w'.cell? ⟨gb, 0, none⟩ = some (.int .i64 (v : Int)) ∧ w'.cell? ⟨gb, 1, none⟩ = some (.int .i64 (n : Int)) ∧ w'.cell? ⟨w.heap.size, v, none⟩ = some (.int .u64 (T v))) (ds := [9]) #[false, false, false, false, false, false, false, false, false, false] (by kernel_rfl) rfl rfl ⟨(blk_cell HBb.out 0).trans rfl, (blk_cell HBb.out 1).trans rfl, mrow_cell HT.out v d4⟩ (fun hHeld => ?_)
        generalize World.drew Wb = V at HT HBb HW hHeld ⊢
        refine pure_ (i := 0) (N := some 19) (v := ?_) (a' := ?_) #[true, false, false, false, false, false, false, false, false, false] rfl rfl (by kernel_rfl) (fun _ _ _ h => h) (Or.inl ⟨by rfl, ?_⟩) ?_ ?_
        rotate_left
        · intro w'
          go_simp
          with_reducible rfl
        rotate_left
        · simp only [Act.put, List.setIfInBounds_toArray, List.set_cons_zero, List.set_cons_succ, i64_w, i32_w]
          rfl
        refine pure_ (i := 4) (N := some 23) (v := ?_) (a' := ?_) #[true, false, false, false, true, false, false, false, false, false] rfl rfl (by kernel_rfl) (fun _ _ _ h => h) (Or.inl ⟨by rfl, ?_⟩) ?_ ?_
        rotate_left
        · intro w'
          go_simp
          with_reducible rfl
        rotate_left
        · simp only [Act.put, List.setIfInBounds_toArray, List.set_cons_zero, List.set_cons_succ, i64_w, i32_w]
          rfl
        refine take_ (i := 1) (N := some 20) (v := ?_) (a' := ?_) #[true, true, false, false, true, false, false, false, false, false] rfl rfl (by kernel_rfl) (fun _ _ _ h => h) (Or.inl ⟨by rfl, ?_⟩) hHeld ?_ ?_
        rotate_left
        · rintro w' ⟨s0, s1, s2⟩
          go_simp
          with_reducible rfl
        rotate_left
        · simp only [Act.put, List.setIfInBounds_toArray, List.set_cons_zero, List.set_cons_succ, i64_w, i32_w]
          rfl
        refine pure_ (i := 2) (N := some 21) (v := ?_) (a' := ?_) #[true, true, true, false, true, false, false, false, false, false] rfl rfl (by kernel_rfl) (fun _ _ _ h => h) (Or.inl ⟨by rfl, ?_⟩) ?_ ?_
        rotate_left
        · intro w'
          go_simp
          with_reducible rfl
        rotate_left
        · simp only [Act.put, List.setIfInBounds_toArray, List.set_cons_zero, List.set_cons_succ, i64_w, i32_w]
          rfl
        refine take_ (i := 3) (N := some 22) (v := ?_) (a' := ?_) #[true, true, true, true, true, false, false, false, false, false] rfl rfl (by kernel_rfl) (fun _ _ _ h => h) (Or.inl ⟨by rfl, ?_⟩) hHeld ?_ ?_
        rotate_left
        · rintro w' ⟨s0, s1, s2⟩
          go_simp
          with_reducible rfl
        rotate_left
        · simp only [Act.put, List.setIfInBounds_toArray, List.set_cons_zero, List.set_cons_succ, i64_w, i32_w]
          rfl
        refine take_ (i := 5) (N := some 24) (v := ?_) (a' := ?_) #[true, true, true, true, true, true, false, false, false, false] rfl rfl (by kernel_rfl) (fun _ _ _ h => h) (Or.inl ⟨by rfl, ?_⟩) hHeld ?_ ?_
        rotate_left
        · rintro w' ⟨s0, s1, s2⟩
          go_simp
          with_reducible rfl
        rotate_left
        · simp only [Act.put, List.setIfInBounds_toArray, List.set_cons_zero, List.set_cons_succ, i64_w, i32_w]
          rfl
        refine pure_ (i := 6) (N := some 25) (v := ?_) (a' := ?_) #[true, true, true, true, true, true, true, false, false, false] rfl rfl (by kernel_rfl) (fun _ _ _ h => h) (Or.inl ⟨by rfl, ?_⟩) ?_ ?_
        rotate_left
        · intro w'
          go_simp
          with_reducible rfl
        rotate_left
        · simp only [Act.put, List.setIfInBounds_toArray, List.set_cons_zero, List.set_cons_succ, i64_w, i32_w]
          rfl
        refine pure_ (i := 7) (N := some 26) (v := ?_) (a' := ?_) #[true, true, true, true, true, true, true, true, false, false] rfl rfl (by kernel_rfl) (fun _ _ _ h => h) (Or.inl ⟨by rfl, ?_⟩) ?_ ?_
        rotate_left
        · intro w'
          go_simp
          with_reducible rfl
        rotate_left
        · simp only [Act.put, List.setIfInBounds_toArray, List.set_cons_zero, List.set_cons_succ, i64_w, i32_w]
          rfl
        refine pure_ (i := 8) (N := some 27) (v := ?_) (a' := ?_) #[true, true, true, true, true, true, true, true, true, false] rfl rfl (by kernel_rfl) (fun _ _ _ h => h) (Or.inl ⟨by rfl, ?_⟩) ?_ ?_
        rotate_left
        · intro w'
          go_simp
          with_reducible rfl
        rotate_left
        · simp only [Act.put, List.setIfInBounds_toArray, List.set_cons_zero, List.set_cons_succ, i64_w, i32_w]
          rfl
        refine last_ (i := 9) (N := none) #[true, true, true, true, true, true, true, true, true, true] rfl rfl (by kernel_rfl) (by decide) (fun K hK => ?_)
        have hct : V.cell? ⟨w.heap.size, v, none⟩ = some (.int .u64 (T v)) := mrow_cell HT.out v d4
        have hft : V.frozen? ⟨w.heap.size, v, none⟩ = false := blk_frozen HT.out v
        refine skip_ (w1 := ?_) (by rfl) rfl ?_ ?_
        rotate_left
        · go_simp
          rfl
        refine hK.out _ _ ?_
        clear hK K
        refine done_ (by kernel_rfl) ?_
        go_wp2
        go_roundw
        case rel =>
          refine ⟨i + 1, by omega, by go_num, ⟨?_, below_set HW.out (Nat.le_refl _)⟩, HK3⟩
          rw [HS.out, Hvn.out]
          exact blk_put HT.out v _ (mrow_set T v _ d4)
        case measure => simp [intOf]; omega
      · go_wp2_with fail
        (with_reducible refine (dirty_block.calls b.f0 b.f1 false _ (block_no ho)).mono ?_)
        rintro e wb ⟨rfl, ⟨nd, rfl⟩⟩
        replace HW := Aside0.mk (pw_below_drewN HW.out nd)
        have hh := H.out
        unfold dirty_Of.f at hh
        rw [if_neg (fun hall => ho (hall b Hbm.out))] at hh
        simp only [Option.some.injEq, Prod.mk.injEq] at hh
        obtain ⟨rfl, rfl⟩ := hh
        go_wp2
        go_ret2
        exact ⟨_, rfl, Kd.R_nil _ _ _ _ _, HW.out⟩
    · obtain rfl : i = l0.length := by omega
      have hh := H.out
      unfold dirty_Of.f at hh
      rw [if_pos (by have h := HK.out; rw [List.take_length] at h; exact h)] at hh
      simp only [Option.some.injEq, Prod.mk.injEq] at hh
      obtain ⟨rfl, rfl⟩ := hh
      clear H
      have HG := Aside0.mk HI2.out.1
      go_wp2_with fail
      (with_reducible refine (masks_bits.calls _ _ _ HG.out).mono ?_)
      rintro e w2 ⟨v0, rfl, hr, hb⟩
      have HR := Aside0.mk (Kd.R_lower hr HI2.out.2.size)
      have HW := Aside0.mk (below_step HI2.out.2 hb)
      clear hr hb
      go_wp2
      go_ret2
      exact ⟨_, rfl, HR.out, HW.out⟩
/-! Join -/
instance (m : List S48) : Decidable (inB m) := by unfold inB; exact inferInstance
/-! Has, Set -/
def okB (a b : Int) : Prop := 1 ≤ a ∧ a ≤ 255 ∧ 0 ≤ b ∧ b < 32
instance (a b : Int) : Decidable (okB a b) := by unfold okB; exact inferInstance
theorem block_eq (a b : Int) : dirty_block.f a b = some (decide (okB a b)) := by
  unfold dirty_block.f
  by_cases h1 : a ≥ 1
  · rw [if_pos h1]
    by_cases h2 : a ≤ 255
    · rw [if_pos h2]
      by_cases h3 : b ≥ 0
      · rw [if_pos h3]
        congr 1
        rw [decide_eq_decide]
        exact ⟨fun h => ⟨h1, h2, h3, h⟩, fun h => h.2.2.2⟩
      · rw [if_neg h3, decide_eq_false (fun h => h3 h.2.2.1)]
    · rw [if_neg h2, decide_eq_false (fun h => h2 h.2.1)]
  · rw [if_neg h1, decide_eq_false (fun h => h1 h.1)]


end Go.Proofs.YtcigkejiompieaaDoor.P
