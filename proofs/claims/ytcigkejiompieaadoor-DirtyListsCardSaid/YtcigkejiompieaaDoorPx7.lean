-- Printed by this session's own program wip/mprint.py
import Derived.Test.YtcigkejiompieaaDoorPx0
namespace Go.Proofs.YtcigkejiompieaaDoor.P
open Go.RowKit Go.Proofs.YtcigkejiompieaaDoorW.PrintWords Go.Proofs.YtcigkejiompieaaDoorW.PrintLast Go.Proofs.YtcigkejiompieaaDoorW.PrintMore
attribute [local go_sem] max2_int min2_int max_two min_two max_three min_three max_four min_four   -- for this text's walks alone
set_option linter.unusedVariables false
set_option linter.unusedSimpArgs false

/-! ### counterfoilref07_Right: function 8 -/
mutual
def counterfoilref07_Right.l0 : Nat → List (S40) → Int → Option (Bool)
  | 0, _, _ => none
  | k + 1, x0, x3 => if x3 < (x0.length : Int) then (if 0 ≤ x3 then (if ((rd_T40 x0 x3).f0) < 1 then (counterfoilref07_Right.j1 k x0 x3 true) else (if ((rd_T40 x0 x3).f0) > 255 then (counterfoilref07_Right.j1 k x0 x3 true) else (if x3 > 0 then (if 0 ≤ (wrap64 (x3 - 1)) then (if (wrap64 (x3 - 1)) < (x0.length : Int) then (if ((rd_T40 x0 (wrap64 (x3 - 1))).f0) ≥ ((rd_T40 x0 x3).f0) then (counterfoilref07_Right.j1 k x0 x3 true) else (if (((rd_T40 x0 x3).f1).length : Int) < 1 then (counterfoilref07_Right.j1 k x0 x3 true) else (counterfoilref07_Right.j1 k x0 x3 (decide ((((rd_T40 x0 x3).f1).length : Int) > 32))))) else (none)) else (none)) else (if (((rd_T40 x0 x3).f1).length : Int) < 1 then (counterfoilref07_Right.j1 k x0 x3 true) else (counterfoilref07_Right.j1 k x0 x3 (decide ((((rd_T40 x0 x3).f1).length : Int) > 32))))))) else (none)) else (some true)
def counterfoilref07_Right.j1 : Nat → List (S40) → Int → Bool → Option (Bool)
  | 0, _, _, _ => none
  | k + 1, x0, x3, x63 => if x63 = true then (some false) else (counterfoilref07_Right.l1 k x0 x3 0)
def counterfoilref07_Right.l1 : Nat → List (S40) → Int → Int → Option (Bool)
  | 0, _, _, _ => none
  | k + 1, x0, x3, x4 => if 0 ≤ x3 then (if x3 < (x0.length : Int) then (if x4 < (((rd_T40 x0 x3).f1).length : Int) then (if 0 ≤ x4 then (if ((rdOf ByteArray.empty ((rd_T40 x0 x3).f1) x4).size : Int) > 8 then (some false) else (counterfoilref07_Right.l1 k x0 x3 (wrap64 (x4 + 1)))) else (none)) else (counterfoilref07_Right.l0 k x0 (wrap64 (x3 + 1)))) else (none)) else (none)
end
def counterfoilref07_Right.f (k : Nat) (l0 : List (S40)) : Option (Bool) := if (l0.length : Int) > 4 then (some false) else (counterfoilref07_Right.l0 k l0 0)
theorem counterfoilref07_Right.mono_l : ∀ k, (∀ y0 y1, LeO (counterfoilref07_Right.l0 k y0 y1) (counterfoilref07_Right.l0 (k + 1) y0 y1)) ∧ (∀ y0 y1 y2, LeO (counterfoilref07_Right.j1 k y0 y1 y2) (counterfoilref07_Right.j1 (k + 1) y0 y1 y2)) ∧ (∀ y0 y1 y2, LeO (counterfoilref07_Right.l1 k y0 y1 y2) (counterfoilref07_Right.l1 (k + 1) y0 y1 y2))
  | 0 => ⟨fun _ _ r h => by simp [counterfoilref07_Right.l0] at h, fun _ _ _ r h => by simp [counterfoilref07_Right.j1] at h, fun _ _ _ r h => by simp [counterfoilref07_Right.l1] at h⟩
  | k + 1 => by
    obtain ⟨ih0, ih1, ih2⟩ := counterfoilref07_Right.mono_l k
    refine ⟨?_, ?_, ?_⟩
    · intro y0 y1
      unfold counterfoilref07_Right.l0
      repeat' first
      | (with_reducible exact ih0 _ _)
      | (with_reducible exact ih1 _ _ _)
      | (with_reducible exact ih2 _ _ _)
      | (with_reducible exact LeO.refl _)
      | (with_reducible exact LeO.none _)
      | (with_reducible refine LeO.ite ?_ ?_)
      | (with_reducible refine LeO.bind ?_ (fun _ => ?_))
      | exact ih0 _ _
      | exact ih1 _ _ _
      | exact ih2 _ _ _
      | exact LeO.none _
      | refine LeO.ite ?_ ?_
      | refine LeO.bind ?_ (fun _ => ?_)
    · intro y0 y1 y2
      unfold counterfoilref07_Right.j1
      repeat' first
      | (with_reducible exact ih0 _ _)
      | (with_reducible exact ih1 _ _ _)
      | (with_reducible exact ih2 _ _ _)
      | (with_reducible exact LeO.refl _)
      | (with_reducible exact LeO.none _)
      | (with_reducible refine LeO.ite ?_ ?_)
      | (with_reducible refine LeO.bind ?_ (fun _ => ?_))
      | exact ih0 _ _
      | exact ih1 _ _ _
      | exact ih2 _ _ _
      | exact LeO.none _
      | refine LeO.ite ?_ ?_
      | refine LeO.bind ?_ (fun _ => ?_)
    · intro y0 y1 y2
      unfold counterfoilref07_Right.l1
      repeat' first
      | (with_reducible exact ih0 _ _)
      | (with_reducible exact ih1 _ _ _)
      | (with_reducible exact ih2 _ _ _)
      | (with_reducible exact LeO.refl _)
      | (with_reducible exact LeO.none _)
      | (with_reducible refine LeO.ite ?_ ?_)
      | (with_reducible refine LeO.bind ?_ (fun _ => ?_))
      | exact ih0 _ _
      | exact ih1 _ _ _
      | exact ih2 _ _ _
      | exact LeO.none _
      | refine LeO.ite ?_ ?_
      | refine LeO.bind ?_ (fun _ => ?_)
theorem counterfoilref07_Right.mono : ∀ a0 k, LeO (counterfoilref07_Right.f k a0) (counterfoilref07_Right.f (k + 1) a0) := by
  intro a0 k
  obtain ⟨ih0, ih1, ih2⟩ := counterfoilref07_Right.mono_l k
  unfold counterfoilref07_Right.f
  repeat' first
      | (with_reducible exact ih0 _ _)
      | (with_reducible exact ih1 _ _ _)
      | (with_reducible exact ih2 _ _ _)
      | (with_reducible exact LeO.refl _)
      | (with_reducible exact LeO.none _)
      | (with_reducible refine LeO.ite ?_ ?_)
      | (with_reducible refine LeO.bind ?_ (fun _ => ?_))
      | exact ih0 _ _
      | exact ih1 _ _ _
      | exact ih2 _ _ _
      | exact LeO.none _
      | refine LeO.ite ?_ ?_
      | refine LeO.bind ?_ (fun _ => ?_)
set_option maxHeartbeats 8000000 in
set_option maxRecDepth 100000 in
theorem counterfoilref07_Right.calls (k : Nat) (A0 : Option Addr) (c0 : Nat) (l0 : List (S40)) (r : Bool) (w : World) (hr0 : Kd.C k40 w A0 l0.length l0) (hc0 : l0.length ≤ c0) (h : counterfoilref07_Right.f k l0 = some r) :
    Calls Tryd.prog 8 #[.slice A0 l0.length c0] w fun e w' => e = .returned (.bool r) ∧ Drawn0 w w' := by
  have HR0 := Aside0.mk hr0
  have HC0 := Aside0.mk hc0
  clear hr0 hc0
  have H : (if (l0.length : Int) > 4 then (some false) else (counterfoilref07_Right.l0 k l0 0)) = some r := h
  clear h
  by_cases c2 : (l0.length : Int) > 4
  · rw [if_pos c2] at H
    have c2b0 : decide (4 < (l0.length : Int)) = true := decide_eq_true c2
    have c2b1 : decide (4 < l0.length) = true := decide_eq_true (by omega)
    clear c2
    obtain rfl := Option.some.inj H
    go_enter Tryd.func8, Tryd.ntmps8
    go_wp2
    repeat (go_quiet (fail); try go_wp2)
    go_ret
    exact ⟨by first | rfl | (simp; done) | (simp [*]; done), by repeat (first | exact Drawn0.refl _ | apply Drawn0.step)⟩
  · rw [if_neg c2] at H
    have c2b0 : decide (4 < (l0.length : Int)) = false := decide_eq_false c2
    have c2b1 : decide (4 < l0.length) = false := decide_eq_false (by omega)
    clear c2
    have H' := Aside0.mk H
    clear H
    go_enter Tryd.func8, Tryd.ntmps8
    go_wp2
    repeat (go_quiet (fail); try go_wp2)
    go_loopg [3] k (fun kq v3 w' => ∃ (x3_1 : Int), v3 = .int .i64 x3_1 ∧ Aside0 (counterfoilref07_Right.l0 kq l0 x3_1 = some r) ∧ Aside0 (kq ≤ k) ∧ Drawn0 w w')
    case atStart => exact ⟨(0), (by first | rfl | (simp; done) | (simp [*]; done)), H', ⟨Nat.le_refl _⟩, by repeat (first | exact Drawn0.refl _ | apply Drawn0.step)⟩
    case round =>
      clear H'
      try clear c2
      try clear c2b0
      try clear c2b1
      try clear p2
      obtain ⟨x3_1, rfl, HA, HK1, ⟨m1, rfl⟩⟩ := hrel
      cases gk with
      | zero => exact absurd HA.out (by simp [counterfoilref07_Right.l0])
      | succ k1 =>
        have H := HA.out
        clear HA
        simp only [counterfoilref07_Right.l0] at H
        by_cases c3 : x3_1 < (l0.length : Int)
        · rw [if_pos c3] at H
          have c3b0 : decide (x3_1 < (l0.length : Int)) = true := decide_eq_true c3
          clear c3
          have HC4 := Aside0.mk H
          clear H
          go_upto_region 6 with (fail)
          repeat (go_quiet (fail); go_upto_region 6 with (fail))
          go_cut [63] (fun v63 wc => ∃ (kq : Nat) (x63_3 : Bool), v63 = .bool x63_3 ∧ Aside0 (counterfoilref07_Right.j1 kq l0 x3_1 x63_3 = some r) ∧ Aside0 (kq ≤ k1) ∧ Drawn0 w wc)
          case first =>
            have H := HC4.out
            clear HC4
            by_cases c5 : 0 ≤ x3_1
            · rw [if_pos c5] at H
              have c5b0 : decide (0 ≤ x3_1) = true := decide_eq_true c5
              clear c5
              (first | rw [c5b0] | (simp only [i64_w, i32_w]; rw [c5b0]) | skip)
              by_cases c6 : ((rd_T40 l0 x3_1).f0) < 1
              · rw [if_pos c6] at H
                have c6b0 : decide (((rd_T40 l0 x3_1).f0) < 1) = true := decide_eq_true c6
                clear c6
                have H' := Aside0.mk H
                clear H
                have p129 : 0 ≤ (x3_1 : Int) := of_decide_eq_true (by first | (with_reducible assumption) | assumption)
                have q129 : x3_1 < (l0.length : Int) := of_decide_eq_true (by first | (with_reducible assumption) | assumption)
                obtain ⟨ad129, A129_1, c129_1, e129, hx129_0, hx129_1, hl129_1, hi129_1⟩ := at_T40 HR0.out x3_1 p129 q129
                cases e129
                have HR129_1 := Aside0.mk hi129_1
                have HC129_1 := Aside0.mk hl129_1
                clear hi129_1 hl129_1
                replace p129 := eq_true p129
                replace q129 := eq_true q129
                go_wp2
                repeat (go_quiet (fail); try go_wp2)
                go_meet
                case rel => exact ⟨_, (true), (by first | rfl | (simp; done) | (simp [*]; done)), H', ⟨by have := HK1.out; first | omega | exact Nat.le_refl _⟩, by repeat (first | exact Drawn0.refl _ | apply Drawn0.step)⟩
              · rw [if_neg c6] at H
                have c6b0 : decide (((rd_T40 l0 x3_1).f0) < 1) = false := decide_eq_false c6
                clear c6
                by_cases c7 : ((rd_T40 l0 x3_1).f0) > 255
                · rw [if_pos c7] at H
                  have c7b0 : decide (255 < ((rd_T40 l0 x3_1).f0)) = true := decide_eq_true c7
                  clear c7
                  have H' := Aside0.mk H
                  clear H
                  have p129 : 0 ≤ (x3_1 : Int) := of_decide_eq_true (by first | (with_reducible assumption) | assumption)
                  have q129 : x3_1 < (l0.length : Int) := of_decide_eq_true (by first | (with_reducible assumption) | assumption)
                  obtain ⟨ad129, A129_1, c129_1, e129, hx129_0, hx129_1, hl129_1, hi129_1⟩ := at_T40 HR0.out x3_1 p129 q129
                  cases e129
                  have HR129_1 := Aside0.mk hi129_1
                  have HC129_1 := Aside0.mk hl129_1
                  clear hi129_1 hl129_1
                  replace p129 := eq_true p129
                  replace q129 := eq_true q129
                  have p130 : 0 ≤ (x3_1 : Int) := of_decide_eq_true (by first | (with_reducible assumption) | assumption)
                  have q130 : x3_1 < (l0.length : Int) := of_decide_eq_true (by first | (with_reducible assumption) | assumption)
                  obtain ⟨ad130, A130_1, c130_1, e130, hx130_0, hx130_1, hl130_1, hi130_1⟩ := at_T40 HR0.out x3_1 p130 q130
                  obtain rfl : ad129 = ad130 := (by injection e130)
                  have HR130_1 := Aside0.mk hi130_1
                  have HC130_1 := Aside0.mk hl130_1
                  clear hi130_1 hl130_1
                  replace p130 := eq_true p130
                  replace q130 := eq_true q130
                  have ea_ := Option.some.inj (hx129_1.symm.trans hx130_1)
                  injection ea_ with ea_ en_ ec_
                  subst ea_
                  subst ec_
                  clear en_
                  go_wp2
                  repeat (go_quiet (fail); try go_wp2)
                  go_meet
                  case rel => exact ⟨_, (true), (by first | rfl | (simp; done) | (simp [*]; done)), H', ⟨by have := HK1.out; first | omega | exact Nat.le_refl _⟩, by repeat (first | exact Drawn0.refl _ | apply Drawn0.step)⟩
                · rw [if_neg c7] at H
                  have c7b0 : decide (255 < ((rd_T40 l0 x3_1).f0)) = false := decide_eq_false c7
                  clear c7
                  by_cases c8 : x3_1 > 0
                  · rw [if_pos c8] at H
                    have c8b0 : decide (0 < x3_1) = true := decide_eq_true c8
                    clear c8
                    obtain ⟨ji9, hji9⟩ : ∃ j_ : Int, (wrap64 (x3_1 - 1)) = j_ := ⟨_, rfl⟩
                    replace H : (if 0 ≤ (ji9) then (if (ji9) < (l0.length : Int) then (if ((rd_T40 l0 (ji9)).f0) ≥ ((rd_T40 l0 x3_1).f0) then (counterfoilref07_Right.j1 k1 l0 x3_1 true) else (if (((rd_T40 l0 x3_1).f1).length : Int) < 1 then (counterfoilref07_Right.j1 k1 l0 x3_1 true) else (counterfoilref07_Right.j1 k1 l0 x3_1 (decide ((((rd_T40 l0 x3_1).f1).length : Int) > 32))))) else (none)) else (none)) = some r := by first | (rw [hji9] at H; exact H) | (simp only [hji9] at H ⊢; exact H)
                    have hji9w : (IntKind.i64.wrap (x3_1 - 1)) = ji9 := (i64_w _).trans hji9
                    by_cases c10 : 0 ≤ (ji9)
                    · rw [if_pos c10] at H
                      have c10b0 : decide (0 ≤ (ji9)) = true := decide_eq_true c10
                      clear c10
                      by_cases c11 : (ji9) < (l0.length : Int)
                      · rw [if_pos c11] at H
                        have c11b0 : decide ((ji9) < (l0.length : Int)) = true := decide_eq_true c11
                        clear c11
                        by_cases c12 : ((rd_T40 l0 (ji9)).f0) ≥ ((rd_T40 l0 x3_1).f0)
                        · rw [if_pos c12] at H
                          have c12b0 : decide (((rd_T40 l0 x3_1).f0) ≤ ((rd_T40 l0 (ji9)).f0)) = true := decide_eq_true c12
                          clear c12
                          have H' := Aside0.mk H
                          clear H
                          have p129 : 0 ≤ (x3_1 : Int) := of_decide_eq_true (by first | (with_reducible assumption) | assumption)
                          have q129 : x3_1 < (l0.length : Int) := of_decide_eq_true (by first | (with_reducible assumption) | assumption)
                          obtain ⟨ad129, A129_1, c129_1, e129, hx129_0, hx129_1, hl129_1, hi129_1⟩ := at_T40 HR0.out x3_1 p129 q129
                          cases e129
                          have HR129_1 := Aside0.mk hi129_1
                          have HC129_1 := Aside0.mk hl129_1
                          clear hi129_1 hl129_1
                          replace p129 := eq_true p129
                          replace q129 := eq_true q129
                          have p130 : 0 ≤ (x3_1 : Int) := of_decide_eq_true (by first | (with_reducible assumption) | assumption)
                          have q130 : x3_1 < (l0.length : Int) := of_decide_eq_true (by first | (with_reducible assumption) | assumption)
                          obtain ⟨ad130, A130_1, c130_1, e130, hx130_0, hx130_1, hl130_1, hi130_1⟩ := at_T40 HR0.out x3_1 p130 q130
                          obtain rfl : ad129 = ad130 := (by injection e130)
                          have HR130_1 := Aside0.mk hi130_1
                          have HC130_1 := Aside0.mk hl130_1
                          clear hi130_1 hl130_1
                          replace p130 := eq_true p130
                          replace q130 := eq_true q130
                          have ea_ := Option.some.inj (hx129_1.symm.trans hx130_1)
                          injection ea_ with ea_ en_ ec_
                          subst ea_
                          subst ec_
                          clear en_
                          have p131 : 0 ≤ ((ji9) : Int) := of_decide_eq_true (by first | (with_reducible assumption) | assumption)
                          have q131 : (ji9) < (l0.length : Int) := of_decide_eq_true (by first | (with_reducible assumption) | assumption)
                          obtain ⟨ad131, A131_1, c131_1, e131, hx131_0, hx131_1, hl131_1, hi131_1⟩ := at_T40 HR0.out (ji9) p131 q131
                          obtain rfl : ad129 = ad131 := (by injection e131)
                          have HR131_1 := Aside0.mk hi131_1
                          have HC131_1 := Aside0.mk hl131_1
                          clear hi131_1 hl131_1
                          replace p131 := eq_true p131
                          replace q131 := eq_true q131
                          have p132 : 0 ≤ (x3_1 : Int) := of_decide_eq_true (by first | (with_reducible assumption) | assumption)
                          have q132 : x3_1 < (l0.length : Int) := of_decide_eq_true (by first | (with_reducible assumption) | assumption)
                          obtain ⟨ad132, A132_1, c132_1, e132, hx132_0, hx132_1, hl132_1, hi132_1⟩ := at_T40 HR0.out x3_1 p132 q132
                          obtain rfl : ad129 = ad132 := (by injection e132)
                          have HR132_1 := Aside0.mk hi132_1
                          have HC132_1 := Aside0.mk hl132_1
                          clear hi132_1 hl132_1
                          replace p132 := eq_true p132
                          replace q132 := eq_true q132
                          have ea_ := Option.some.inj (hx129_1.symm.trans hx132_1)
                          injection ea_ with ea_ en_ ec_
                          subst ea_
                          subst ec_
                          clear en_
                          go_wp2
                          repeat (go_quiet (fail); try go_wp2)
                          go_meet
                          case rel => exact ⟨_, (true), (by first | rfl | (simp; done) | (simp [*]; done)), H', ⟨by have := HK1.out; first | omega | exact Nat.le_refl _⟩, by repeat (first | exact Drawn0.refl _ | apply Drawn0.step)⟩
                        · rw [if_neg c12] at H
                          have c12b0 : decide (((rd_T40 l0 x3_1).f0) ≤ ((rd_T40 l0 (ji9)).f0)) = false := decide_eq_false c12
                          clear c12
                          by_cases c13 : (((rd_T40 l0 x3_1).f1).length : Int) < 1
                          · rw [if_pos c13] at H
                            have c13b0 : decide ((((rd_T40 l0 x3_1).f1).length : Int) < 1) = true := decide_eq_true c13
                            have c13b1 : decide (((rd_T40 l0 x3_1).f1).length < 1) = true := decide_eq_true (by omega)
                            clear c13
                            have H' := Aside0.mk H
                            clear H
                            have p129 : 0 ≤ (x3_1 : Int) := of_decide_eq_true (by first | (with_reducible assumption) | assumption)
                            have q129 : x3_1 < (l0.length : Int) := of_decide_eq_true (by first | (with_reducible assumption) | assumption)
                            obtain ⟨ad129, A129_1, c129_1, e129, hx129_0, hx129_1, hl129_1, hi129_1⟩ := at_T40 HR0.out x3_1 p129 q129
                            cases e129
                            have HR129_1 := Aside0.mk hi129_1
                            have HC129_1 := Aside0.mk hl129_1
                            clear hi129_1 hl129_1
                            replace p129 := eq_true p129
                            replace q129 := eq_true q129
                            have p130 : 0 ≤ (x3_1 : Int) := of_decide_eq_true (by first | (with_reducible assumption) | assumption)
                            have q130 : x3_1 < (l0.length : Int) := of_decide_eq_true (by first | (with_reducible assumption) | assumption)
                            obtain ⟨ad130, A130_1, c130_1, e130, hx130_0, hx130_1, hl130_1, hi130_1⟩ := at_T40 HR0.out x3_1 p130 q130
                            obtain rfl : ad129 = ad130 := (by injection e130)
                            have HR130_1 := Aside0.mk hi130_1
                            have HC130_1 := Aside0.mk hl130_1
                            clear hi130_1 hl130_1
                            replace p130 := eq_true p130
                            replace q130 := eq_true q130
                            have ea_ := Option.some.inj (hx129_1.symm.trans hx130_1)
                            injection ea_ with ea_ en_ ec_
                            subst ea_
                            subst ec_
                            clear en_
                            have p131 : 0 ≤ ((ji9) : Int) := of_decide_eq_true (by first | (with_reducible assumption) | assumption)
                            have q131 : (ji9) < (l0.length : Int) := of_decide_eq_true (by first | (with_reducible assumption) | assumption)
                            obtain ⟨ad131, A131_1, c131_1, e131, hx131_0, hx131_1, hl131_1, hi131_1⟩ := at_T40 HR0.out (ji9) p131 q131
                            obtain rfl : ad129 = ad131 := (by injection e131)
                            have HR131_1 := Aside0.mk hi131_1
                            have HC131_1 := Aside0.mk hl131_1
                            clear hi131_1 hl131_1
                            replace p131 := eq_true p131
                            replace q131 := eq_true q131
                            have p132 : 0 ≤ (x3_1 : Int) := of_decide_eq_true (by first | (with_reducible assumption) | assumption)
                            have q132 : x3_1 < (l0.length : Int) := of_decide_eq_true (by first | (with_reducible assumption) | assumption)
                            obtain ⟨ad132, A132_1, c132_1, e132, hx132_0, hx132_1, hl132_1, hi132_1⟩ := at_T40 HR0.out x3_1 p132 q132
                            obtain rfl : ad129 = ad132 := (by injection e132)
                            have HR132_1 := Aside0.mk hi132_1
                            have HC132_1 := Aside0.mk hl132_1
                            clear hi132_1 hl132_1
                            replace p132 := eq_true p132
                            replace q132 := eq_true q132
                            have ea_ := Option.some.inj (hx129_1.symm.trans hx132_1)
                            injection ea_ with ea_ en_ ec_
                            subst ea_
                            subst ec_
                            clear en_
                            have p133 : 0 ≤ (x3_1 : Int) := of_decide_eq_true (by first | (with_reducible assumption) | assumption)
                            have q133 : x3_1 < (l0.length : Int) := of_decide_eq_true (by first | (with_reducible assumption) | assumption)
                            obtain ⟨ad133, A133_1, c133_1, e133, hx133_0, hx133_1, hl133_1, hi133_1⟩ := at_T40 HR0.out x3_1 p133 q133
                            obtain rfl : ad129 = ad133 := (by injection e133)
                            have HR133_1 := Aside0.mk hi133_1
                            have HC133_1 := Aside0.mk hl133_1
                            clear hi133_1 hl133_1
                            replace p133 := eq_true p133
                            replace q133 := eq_true q133
                            have ea_ := Option.some.inj (hx129_1.symm.trans hx133_1)
                            injection ea_ with ea_ en_ ec_
                            subst ea_
                            subst ec_
                            clear en_
                            go_wp2
                            repeat (go_quiet (fail); try go_wp2)
                            go_meet
                            case rel => exact ⟨_, (true), (by first | rfl | (simp; done) | (simp [*]; done)), H', ⟨by have := HK1.out; first | omega | exact Nat.le_refl _⟩, by repeat (first | exact Drawn0.refl _ | apply Drawn0.step)⟩
                          · rw [if_neg c13] at H
                            have c13b0 : decide ((((rd_T40 l0 x3_1).f1).length : Int) < 1) = false := decide_eq_false c13
                            have c13b1 : decide (((rd_T40 l0 x3_1).f1).length < 1) = false := decide_eq_false (by omega)
                            clear c13
                            have H' := Aside0.mk H
                            clear H
                            have p129 : 0 ≤ (x3_1 : Int) := of_decide_eq_true (by first | (with_reducible assumption) | assumption)
                            have q129 : x3_1 < (l0.length : Int) := of_decide_eq_true (by first | (with_reducible assumption) | assumption)
                            obtain ⟨ad129, A129_1, c129_1, e129, hx129_0, hx129_1, hl129_1, hi129_1⟩ := at_T40 HR0.out x3_1 p129 q129
                            cases e129
                            have HR129_1 := Aside0.mk hi129_1
                            have HC129_1 := Aside0.mk hl129_1
                            clear hi129_1 hl129_1
                            replace p129 := eq_true p129
                            replace q129 := eq_true q129
                            have p130 : 0 ≤ (x3_1 : Int) := of_decide_eq_true (by first | (with_reducible assumption) | assumption)
                            have q130 : x3_1 < (l0.length : Int) := of_decide_eq_true (by first | (with_reducible assumption) | assumption)
                            obtain ⟨ad130, A130_1, c130_1, e130, hx130_0, hx130_1, hl130_1, hi130_1⟩ := at_T40 HR0.out x3_1 p130 q130
                            obtain rfl : ad129 = ad130 := (by injection e130)
                            have HR130_1 := Aside0.mk hi130_1
                            have HC130_1 := Aside0.mk hl130_1
                            clear hi130_1 hl130_1
                            replace p130 := eq_true p130
                            replace q130 := eq_true q130
                            have ea_ := Option.some.inj (hx129_1.symm.trans hx130_1)
                            injection ea_ with ea_ en_ ec_
                            subst ea_
                            subst ec_
                            clear en_
                            have p131 : 0 ≤ ((ji9) : Int) := of_decide_eq_true (by first | (with_reducible assumption) | assumption)
                            have q131 : (ji9) < (l0.length : Int) := of_decide_eq_true (by first | (with_reducible assumption) | assumption)
                            obtain ⟨ad131, A131_1, c131_1, e131, hx131_0, hx131_1, hl131_1, hi131_1⟩ := at_T40 HR0.out (ji9) p131 q131
                            obtain rfl : ad129 = ad131 := (by injection e131)
                            have HR131_1 := Aside0.mk hi131_1
                            have HC131_1 := Aside0.mk hl131_1
                            clear hi131_1 hl131_1
                            replace p131 := eq_true p131
                            replace q131 := eq_true q131
                            have p132 : 0 ≤ (x3_1 : Int) := of_decide_eq_true (by first | (with_reducible assumption) | assumption)
                            have q132 : x3_1 < (l0.length : Int) := of_decide_eq_true (by first | (with_reducible assumption) | assumption)
                            obtain ⟨ad132, A132_1, c132_1, e132, hx132_0, hx132_1, hl132_1, hi132_1⟩ := at_T40 HR0.out x3_1 p132 q132
                            obtain rfl : ad129 = ad132 := (by injection e132)
                            have HR132_1 := Aside0.mk hi132_1
                            have HC132_1 := Aside0.mk hl132_1
                            clear hi132_1 hl132_1
                            replace p132 := eq_true p132
                            replace q132 := eq_true q132
                            have ea_ := Option.some.inj (hx129_1.symm.trans hx132_1)
                            injection ea_ with ea_ en_ ec_
                            subst ea_
                            subst ec_
                            clear en_
                            have p133 : 0 ≤ (x3_1 : Int) := of_decide_eq_true (by first | (with_reducible assumption) | assumption)
                            have q133 : x3_1 < (l0.length : Int) := of_decide_eq_true (by first | (with_reducible assumption) | assumption)
                            obtain ⟨ad133, A133_1, c133_1, e133, hx133_0, hx133_1, hl133_1, hi133_1⟩ := at_T40 HR0.out x3_1 p133 q133
                            obtain rfl : ad129 = ad133 := (by injection e133)
                            have HR133_1 := Aside0.mk hi133_1
                            have HC133_1 := Aside0.mk hl133_1
                            clear hi133_1 hl133_1
                            replace p133 := eq_true p133
                            replace q133 := eq_true q133
                            have ea_ := Option.some.inj (hx129_1.symm.trans hx133_1)
                            injection ea_ with ea_ en_ ec_
                            subst ea_
                            subst ec_
                            clear en_
                            have p134 : 0 ≤ (x3_1 : Int) := of_decide_eq_true (by first | (with_reducible assumption) | assumption)
                            have q134 : x3_1 < (l0.length : Int) := of_decide_eq_true (by first | (with_reducible assumption) | assumption)
                            obtain ⟨ad134, A134_1, c134_1, e134, hx134_0, hx134_1, hl134_1, hi134_1⟩ := at_T40 HR0.out x3_1 p134 q134
                            obtain rfl : ad129 = ad134 := (by injection e134)
                            have HR134_1 := Aside0.mk hi134_1
                            have HC134_1 := Aside0.mk hl134_1
                            clear hi134_1 hl134_1
                            replace p134 := eq_true p134
                            replace q134 := eq_true q134
                            have ea_ := Option.some.inj (hx129_1.symm.trans hx134_1)
                            injection ea_ with ea_ en_ ec_
                            subst ea_
                            subst ec_
                            clear en_
                            go_wp2
                            repeat (go_quiet (fail); try go_wp2)
                            go_meet
                            case rel => exact ⟨_, (decide ((((rd_T40 l0 x3_1).f1).length : Int) > 32)), (by first | rfl | (simp; done) | (simp [*]; done)), H', ⟨by have := HK1.out; first | omega | exact Nat.le_refl _⟩, by repeat (first | exact Drawn0.refl _ | apply Drawn0.step)⟩
                      · rw [if_neg c11] at H
                        exact absurd H (by simp)
                    · rw [if_neg c10] at H
                      exact absurd H (by simp)
                  · rw [if_neg c8] at H
                    have c8b0 : decide (0 < x3_1) = false := decide_eq_false c8
                    clear c8
                    by_cases c14 : (((rd_T40 l0 x3_1).f1).length : Int) < 1
                    · rw [if_pos c14] at H
                      have c14b0 : decide ((((rd_T40 l0 x3_1).f1).length : Int) < 1) = true := decide_eq_true c14
                      have c14b1 : decide (((rd_T40 l0 x3_1).f1).length < 1) = true := decide_eq_true (by omega)
                      clear c14
                      have H' := Aside0.mk H
                      clear H
                      have p129 : 0 ≤ (x3_1 : Int) := of_decide_eq_true (by first | (with_reducible assumption) | assumption)
                      have q129 : x3_1 < (l0.length : Int) := of_decide_eq_true (by first | (with_reducible assumption) | assumption)
                      obtain ⟨ad129, A129_1, c129_1, e129, hx129_0, hx129_1, hl129_1, hi129_1⟩ := at_T40 HR0.out x3_1 p129 q129
                      cases e129
                      have HR129_1 := Aside0.mk hi129_1
                      have HC129_1 := Aside0.mk hl129_1
                      clear hi129_1 hl129_1
                      replace p129 := eq_true p129
                      replace q129 := eq_true q129
                      have p130 : 0 ≤ (x3_1 : Int) := of_decide_eq_true (by first | (with_reducible assumption) | assumption)
                      have q130 : x3_1 < (l0.length : Int) := of_decide_eq_true (by first | (with_reducible assumption) | assumption)
                      obtain ⟨ad130, A130_1, c130_1, e130, hx130_0, hx130_1, hl130_1, hi130_1⟩ := at_T40 HR0.out x3_1 p130 q130
                      obtain rfl : ad129 = ad130 := (by injection e130)
                      have HR130_1 := Aside0.mk hi130_1
                      have HC130_1 := Aside0.mk hl130_1
                      clear hi130_1 hl130_1
                      replace p130 := eq_true p130
                      replace q130 := eq_true q130
                      have ea_ := Option.some.inj (hx129_1.symm.trans hx130_1)
                      injection ea_ with ea_ en_ ec_
                      subst ea_
                      subst ec_
                      clear en_
                      have p135 : 0 ≤ (x3_1 : Int) := of_decide_eq_true (by first | (with_reducible assumption) | assumption)
                      have q135 : x3_1 < (l0.length : Int) := of_decide_eq_true (by first | (with_reducible assumption) | assumption)
                      obtain ⟨ad135, A135_1, c135_1, e135, hx135_0, hx135_1, hl135_1, hi135_1⟩ := at_T40 HR0.out x3_1 p135 q135
                      obtain rfl : ad129 = ad135 := (by injection e135)
                      have HR135_1 := Aside0.mk hi135_1
                      have HC135_1 := Aside0.mk hl135_1
                      clear hi135_1 hl135_1
                      replace p135 := eq_true p135
                      replace q135 := eq_true q135
                      have ea_ := Option.some.inj (hx129_1.symm.trans hx135_1)
                      injection ea_ with ea_ en_ ec_
                      subst ea_
                      subst ec_
                      clear en_
                      go_wp2
                      repeat (go_quiet (fail); try go_wp2)
                      go_meet
                      case rel => exact ⟨_, (true), (by first | rfl | (simp; done) | (simp [*]; done)), H', ⟨by have := HK1.out; first | omega | exact Nat.le_refl _⟩, by repeat (first | exact Drawn0.refl _ | apply Drawn0.step)⟩
                    · rw [if_neg c14] at H
                      have c14b0 : decide ((((rd_T40 l0 x3_1).f1).length : Int) < 1) = false := decide_eq_false c14
                      have c14b1 : decide (((rd_T40 l0 x3_1).f1).length < 1) = false := decide_eq_false (by omega)
                      clear c14
                      have H' := Aside0.mk H
                      clear H
                      have p129 : 0 ≤ (x3_1 : Int) := of_decide_eq_true (by first | (with_reducible assumption) | assumption)
                      have q129 : x3_1 < (l0.length : Int) := of_decide_eq_true (by first | (with_reducible assumption) | assumption)
                      obtain ⟨ad129, A129_1, c129_1, e129, hx129_0, hx129_1, hl129_1, hi129_1⟩ := at_T40 HR0.out x3_1 p129 q129
                      cases e129
                      have HR129_1 := Aside0.mk hi129_1
                      have HC129_1 := Aside0.mk hl129_1
                      clear hi129_1 hl129_1
                      replace p129 := eq_true p129
                      replace q129 := eq_true q129
                      have p130 : 0 ≤ (x3_1 : Int) := of_decide_eq_true (by first | (with_reducible assumption) | assumption)
                      have q130 : x3_1 < (l0.length : Int) := of_decide_eq_true (by first | (with_reducible assumption) | assumption)
                      obtain ⟨ad130, A130_1, c130_1, e130, hx130_0, hx130_1, hl130_1, hi130_1⟩ := at_T40 HR0.out x3_1 p130 q130
                      obtain rfl : ad129 = ad130 := (by injection e130)
                      have HR130_1 := Aside0.mk hi130_1
                      have HC130_1 := Aside0.mk hl130_1
                      clear hi130_1 hl130_1
                      replace p130 := eq_true p130
                      replace q130 := eq_true q130
                      have ea_ := Option.some.inj (hx129_1.symm.trans hx130_1)
                      injection ea_ with ea_ en_ ec_
                      subst ea_
                      subst ec_
                      clear en_
                      have p135 : 0 ≤ (x3_1 : Int) := of_decide_eq_true (by first | (with_reducible assumption) | assumption)
                      have q135 : x3_1 < (l0.length : Int) := of_decide_eq_true (by first | (with_reducible assumption) | assumption)
                      obtain ⟨ad135, A135_1, c135_1, e135, hx135_0, hx135_1, hl135_1, hi135_1⟩ := at_T40 HR0.out x3_1 p135 q135
                      obtain rfl : ad129 = ad135 := (by injection e135)
                      have HR135_1 := Aside0.mk hi135_1
                      have HC135_1 := Aside0.mk hl135_1
                      clear hi135_1 hl135_1
                      replace p135 := eq_true p135
                      replace q135 := eq_true q135
                      have ea_ := Option.some.inj (hx129_1.symm.trans hx135_1)
                      injection ea_ with ea_ en_ ec_
                      subst ea_
                      subst ec_
                      clear en_
                      have p136 : 0 ≤ (x3_1 : Int) := of_decide_eq_true (by first | (with_reducible assumption) | assumption)
                      have q136 : x3_1 < (l0.length : Int) := of_decide_eq_true (by first | (with_reducible assumption) | assumption)
                      obtain ⟨ad136, A136_1, c136_1, e136, hx136_0, hx136_1, hl136_1, hi136_1⟩ := at_T40 HR0.out x3_1 p136 q136
                      obtain rfl : ad129 = ad136 := (by injection e136)
                      have HR136_1 := Aside0.mk hi136_1
                      have HC136_1 := Aside0.mk hl136_1
                      clear hi136_1 hl136_1
                      replace p136 := eq_true p136
                      replace q136 := eq_true q136
                      have ea_ := Option.some.inj (hx129_1.symm.trans hx136_1)
                      injection ea_ with ea_ en_ ec_
                      subst ea_
                      subst ec_
                      clear en_
                      go_wp2
                      repeat (go_quiet (fail); try go_wp2)
                      go_meet
                      case rel => exact ⟨_, (decide ((((rd_T40 l0 x3_1).f1).length : Int) > 32)), (by first | rfl | (simp; done) | (simp [*]; done)), H', ⟨by have := HK1.out; first | omega | exact Nat.le_refl _⟩, by repeat (first | exact Drawn0.refl _ | apply Drawn0.step)⟩
            · rw [if_neg c5] at H
              exact absurd H (by simp)
          case rest =>
            clear HC4
            try clear c1
            try clear p1
            try clear q1
            try clear hx1
            try clear c2
            try clear c2b0
            try clear c2b1
            try clear p2
            try clear c3
            try clear c3b0
            try clear c5
            try clear c5b0
            try clear c6
            try clear c6b0
            try clear p6
            try clear c7
            try clear c7b0
            try clear c8
            try clear c8b0
            try clear c10
            try clear c10b0
            try clear c11
            try clear c11b0
            try clear c12
            try clear c12b0
            try clear p12
            try clear q12
            try clear hx12
            try clear c13
            try clear c13b0
            try clear c13b1
            try clear p13
            try clear q13
            try clear hx13
            try clear c14
            try clear c14b0
            try clear c14b1
            try clear hx129_0
            try clear hx129_1
            try clear hx130_0
            try clear hx130_1
            try clear hx131_0
            try clear hx131_1
            try clear hx132_0
            try clear hx132_1
            try clear hx133_0
            try clear hx133_1
            try clear hx134_0
            try clear hx134_1
            try clear hx135_0
            try clear hx135_1
            try clear hx136_0
            try clear hx136_1
            try clear p129
            try clear p130
            try clear p131
            try clear p132
            try clear p133
            try clear p134
            try clear p135
            try clear p136
            try clear p2
            try clear q129
            try clear q130
            try clear q131
            try clear q132
            try clear q133
            try clear q134
            try clear q135
            try clear q136
            obtain ⟨kq, x63_3, rfl, HA, HJ3, ⟨mc3, rfl⟩⟩ := hcut
            cases kq with
            | zero => exact absurd HA.out (by simp [counterfoilref07_Right.j1])
            | succ kj3 =>
              have H := HA.out
              clear HA
              simp only [counterfoilref07_Right.j1] at H
              by_cases c15 : x63_3 = true
              · subst c15
                have H1 : (some false) = some r := by rw [if_pos rfl] at H; exact H
                clear H
                have H := H1
                clear H1
                obtain rfl := Option.some.inj H
                go_wp2
                repeat (go_quiet (fail); try go_wp2)
                go_ret
                exact ⟨by first | rfl | (simp; done) | (simp [*]; done), by repeat (first | exact Drawn0.refl _ | apply Drawn0.step)⟩
              · replace c15 := Bool.eq_false_iff.mpr c15
                subst c15
                have H1 : (counterfoilref07_Right.l1 kj3 l0 x3_1 0) = some r := by rw [if_neg (show ¬ (false = true) by decide)] at H; exact H
                clear H
                have H := H1
                clear H1
                have H' := Aside0.mk H
                clear H
                go_wp2
                repeat (go_quiet (fail); try go_wp2)
                go_loopg [4] kj3 (fun kq v4 w' => ∃ (x4_3 : Int), v4 = .int .i64 x4_3 ∧ Aside0 (counterfoilref07_Right.l1 kq l0 x3_1 x4_3 = some r) ∧ Aside0 (kq ≤ kj3) ∧ Drawn0 w w')
                case atStart => exact ⟨(0), (by first | rfl | (simp; done) | (simp [*]; done)), H', ⟨Nat.le_refl _⟩, by repeat (first | exact Drawn0.refl _ | apply Drawn0.step)⟩
                case round =>
                  clear H'
                  try clear c1
                  try clear p1
                  try clear q1
                  try clear hx1
                  try clear c2
                  try clear c2b0
                  try clear c2b1
                  try clear p2
                  try clear c3
                  try clear c3b0
                  try clear c5
                  try clear c5b0
                  try clear c6
                  try clear c6b0
                  try clear p6
                  try clear c7
                  try clear c7b0
                  try clear c8
                  try clear c8b0
                  try clear c10
                  try clear c10b0
                  try clear c11
                  try clear c11b0
                  try clear c12
                  try clear c12b0
                  try clear p12
                  try clear q12
                  try clear hx12
                  try clear c13
                  try clear c13b0
                  try clear c13b1
                  try clear p13
                  try clear q13
                  try clear hx13
                  try clear c14
                  try clear c14b0
                  try clear c14b1
                  try clear c15
                  try clear hx129_0
                  try clear hx129_1
                  try clear hx130_0
                  try clear hx130_1
                  try clear hx131_0
                  try clear hx131_1
                  try clear hx132_0
                  try clear hx132_1
                  try clear hx133_0
                  try clear hx133_1
                  try clear hx134_0
                  try clear hx134_1
                  try clear hx135_0
                  try clear hx135_1
                  try clear hx136_0
                  try clear hx136_1
                  try clear p1
                  try clear p12
                  try clear p129
                  try clear p13
                  try clear p130
                  try clear p131
                  try clear p132
                  try clear p133
                  try clear p134
                  try clear p135
                  try clear p136
                  try clear p2
                  try clear p6
                  try clear q1
                  try clear q12
                  try clear q129
                  try clear q13
                  try clear q130
                  try clear q131
                  try clear q132
                  try clear q133
                  try clear q134
                  try clear q135
                  try clear q136
                  obtain ⟨x4_3, rfl, HA, HK3, ⟨m3, rfl⟩⟩ := hrel
                  cases gk with
                  | zero => exact absurd HA.out (by simp [counterfoilref07_Right.l1])
                  | succ k3 =>
                    have H := HA.out
                    clear HA
                    simp only [counterfoilref07_Right.l1] at H
                    by_cases c16 : 0 ≤ x3_1
                    · rw [if_pos c16] at H
                      have c16b0 : decide (0 ≤ x3_1) = true := decide_eq_true c16
                      clear c16
                      by_cases c17 : x3_1 < (l0.length : Int)
                      · rw [if_pos c17] at H
                        have c17b0 : decide (x3_1 < (l0.length : Int)) = true := decide_eq_true c17
                        clear c17
                        by_cases c18 : x4_3 < (((rd_T40 l0 x3_1).f1).length : Int)
                        · rw [if_pos c18] at H
                          have c18b0 : decide (x4_3 < (((rd_T40 l0 x3_1).f1).length : Int)) = true := decide_eq_true c18
                          clear c18
                          by_cases c19 : 0 ≤ x4_3
                          · rw [if_pos c19] at H
                            have c19b0 : decide (0 ≤ x4_3) = true := decide_eq_true c19
                            clear c19
                            by_cases c20 : ((rdOf ByteArray.empty ((rd_T40 l0 x3_1).f1) x4_3).size : Int) > 8
                            · rw [if_pos c20] at H
                              have c20b0 : decide (8 < ((rdOf ByteArray.empty ((rd_T40 l0 x3_1).f1) x4_3).size : Int)) = true := decide_eq_true c20
                              have c20b1 : decide (8 < (rdOf ByteArray.empty ((rd_T40 l0 x3_1).f1) x4_3).size) = true := decide_eq_true (by omega)
                              clear c20
                              obtain rfl := Option.some.inj H
                              have p137 : 0 ≤ (x3_1 : Int) := of_decide_eq_true (by first | (with_reducible assumption) | assumption)
                              have q137 : x3_1 < (l0.length : Int) := of_decide_eq_true (by first | (with_reducible assumption) | assumption)
                              obtain ⟨ad137, A137_1, c137_1, e137, hx137_0, hx137_1, hl137_1, hi137_1⟩ := at_T40 HR0.out x3_1 p137 q137
                              cases e137
                              have HR137_1 := Aside0.mk hi137_1
                              have HC137_1 := Aside0.mk hl137_1
                              clear hi137_1 hl137_1
                              replace p137 := eq_true p137
                              replace q137 := eq_true q137
                              have p138 : 0 ≤ (x3_1 : Int) := of_decide_eq_true (by first | (with_reducible assumption) | assumption)
                              have q138 : x3_1 < (l0.length : Int) := of_decide_eq_true (by first | (with_reducible assumption) | assumption)
                              obtain ⟨ad138, A138_1, c138_1, e138, hx138_0, hx138_1, hl138_1, hi138_1⟩ := at_T40 HR0.out x3_1 p138 q138
                              obtain rfl : ad137 = ad138 := (by injection e138)
                              have HR138_1 := Aside0.mk hi138_1
                              have HC138_1 := Aside0.mk hl138_1
                              clear hi138_1 hl138_1
                              replace p138 := eq_true p138
                              replace q138 := eq_true q138
                              have ea_ := Option.some.inj (hx137_1.symm.trans hx138_1)
                              injection ea_ with ea_ en_ ec_
                              subst ea_
                              subst ec_
                              clear en_
                              have p139 : 0 ≤ (x4_3 : Int) := of_decide_eq_true (by first | (with_reducible assumption) | assumption)
                              have q139 : x4_3 < (((rd_T40 l0 x3_1).f1).length : Int) := of_decide_eq_true (by first | (with_reducible assumption) | assumption)
                              obtain ⟨ad139, e139, hx139_0⟩ := Kd.at_string HR138_1.out x4_3 p139 q139
                              cases e139
                              replace p139 := eq_true p139
                              replace q139 := eq_true q139
                              go_wp2
                              repeat (go_quiet (fail); try go_wp2)
                              go_ret
                              exact ⟨by first | rfl | (simp; done) | (simp [*]; done), by repeat (first | exact Drawn0.refl _ | apply Drawn0.step)⟩
                            · rw [if_neg c20] at H
                              have c20b0 : decide (8 < ((rdOf ByteArray.empty ((rd_T40 l0 x3_1).f1) x4_3).size : Int)) = false := decide_eq_false c20
                              have c20b1 : decide (8 < (rdOf ByteArray.empty ((rd_T40 l0 x3_1).f1) x4_3).size) = false := decide_eq_false (by omega)
                              clear c20
                              have H' := Aside0.mk H
                              clear H
                              have p137 : 0 ≤ (x3_1 : Int) := of_decide_eq_true (by first | (with_reducible assumption) | assumption)
                              have q137 : x3_1 < (l0.length : Int) := of_decide_eq_true (by first | (with_reducible assumption) | assumption)
                              obtain ⟨ad137, A137_1, c137_1, e137, hx137_0, hx137_1, hl137_1, hi137_1⟩ := at_T40 HR0.out x3_1 p137 q137
                              cases e137
                              have HR137_1 := Aside0.mk hi137_1
                              have HC137_1 := Aside0.mk hl137_1
                              clear hi137_1 hl137_1
                              replace p137 := eq_true p137
                              replace q137 := eq_true q137
                              have p138 : 0 ≤ (x3_1 : Int) := of_decide_eq_true (by first | (with_reducible assumption) | assumption)
                              have q138 : x3_1 < (l0.length : Int) := of_decide_eq_true (by first | (with_reducible assumption) | assumption)
                              obtain ⟨ad138, A138_1, c138_1, e138, hx138_0, hx138_1, hl138_1, hi138_1⟩ := at_T40 HR0.out x3_1 p138 q138
                              obtain rfl : ad137 = ad138 := (by injection e138)
                              have HR138_1 := Aside0.mk hi138_1
                              have HC138_1 := Aside0.mk hl138_1
                              clear hi138_1 hl138_1
                              replace p138 := eq_true p138
                              replace q138 := eq_true q138
                              have ea_ := Option.some.inj (hx137_1.symm.trans hx138_1)
                              injection ea_ with ea_ en_ ec_
                              subst ea_
                              subst ec_
                              clear en_
                              have p139 : 0 ≤ (x4_3 : Int) := of_decide_eq_true (by first | (with_reducible assumption) | assumption)
                              have q139 : x4_3 < (((rd_T40 l0 x3_1).f1).length : Int) := of_decide_eq_true (by first | (with_reducible assumption) | assumption)
                              obtain ⟨ad139, e139, hx139_0⟩ := Kd.at_string HR138_1.out x4_3 p139 q139
                              cases e139
                              replace p139 := eq_true p139
                              replace q139 := eq_true q139
                              go_wp2
                              repeat (go_quiet (fail); try go_wp2)
                              go_roundg k3
                              case measure => have := HK1.out; have := HJ3.out; have := HK3.out; omega
                              case rel => exact ⟨(wrap64 (x4_3 + 1)), (by first | rfl | (simp; done) | (simp [*]; done)), H', ⟨by have := HK1.out; have := HJ3.out; have := HK3.out; omega⟩, by repeat (first | exact Drawn0.refl _ | apply Drawn0.step)⟩
                          · rw [if_neg c19] at H
                            exact absurd H (by simp)
                        · rw [if_neg c18] at H
                          have c18b0 : decide (x4_3 < (((rd_T40 l0 x3_1).f1).length : Int)) = false := decide_eq_false c18
                          clear c18
                          have H' := Aside0.mk H
                          clear H
                          have p137 : 0 ≤ (x3_1 : Int) := of_decide_eq_true (by first | (with_reducible assumption) | assumption)
                          have q137 : x3_1 < (l0.length : Int) := of_decide_eq_true (by first | (with_reducible assumption) | assumption)
                          obtain ⟨ad137, A137_1, c137_1, e137, hx137_0, hx137_1, hl137_1, hi137_1⟩ := at_T40 HR0.out x3_1 p137 q137
                          cases e137
                          have HR137_1 := Aside0.mk hi137_1
                          have HC137_1 := Aside0.mk hl137_1
                          clear hi137_1 hl137_1
                          replace p137 := eq_true p137
                          replace q137 := eq_true q137
                          go_wp2
                          repeat (go_quiet (fail); try go_wp2)
                          go_roundg k3
                          case measure => have := HK1.out; have := HJ3.out; have := HK3.out; omega
                          case rel => exact ⟨(wrap64 (x3_1 + 1)), (by first | rfl | (simp; done) | (simp [*]; done)), H', ⟨by have := HK1.out; have := HJ3.out; have := HK3.out; omega⟩, by repeat (first | exact Drawn0.refl _ | apply Drawn0.step)⟩
                      · rw [if_neg c17] at H
                        exact absurd H (by simp)
                    · rw [if_neg c16] at H
                      exact absurd H (by simp)
        · rw [if_neg c3] at H
          have c3b0 : decide (x3_1 < (l0.length : Int)) = false := decide_eq_false c3
          clear c3
          obtain rfl := Option.some.inj H
          go_wp2
          repeat (go_quiet (fail); try go_wp2)
          go_ret
          exact ⟨by first | rfl | (simp; done) | (simp [*]; done), by repeat (first | exact Drawn0.refl _ | apply Drawn0.step)⟩

end Go.Proofs.YtcigkejiompieaaDoor.P
