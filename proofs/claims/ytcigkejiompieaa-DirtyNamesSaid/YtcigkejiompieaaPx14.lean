-- Printed by this session's own program wip/mprint.py
import Derived.Test.YtcigkejiompieaaPx0
namespace Go.Proofs.Ytcigkejiompieaa.P
open Go.RowKit Go.Proofs.YtcigkejiompieaaW.PrintWords Go.Proofs.YtcigkejiompieaaW.PrintLast Go.Proofs.YtcigkejiompieaaW.PrintMore
attribute [local go_sem] max2_int min2_int max_two min_two max_three min_three max_four min_four   -- for this text's walks alone
set_option linter.unusedVariables false
set_option linter.unusedSimpArgs false

/-! ### counterfoilref07_Right: function 26 -/
mutual
def counterfoilref07_Right.l0 : Nat → List (S76) → Int → Option (Bool)
  | 0, _, _ => none
  | k + 1, x0, x3 => if x3 < (x0.length : Int) then (if 0 ≤ x3 then (if ((rd_T76 x0 x3).f0) < 1 then (counterfoilref07_Right.j1 k x0 x3 true) else (if ((rd_T76 x0 x3).f0) > 255 then (counterfoilref07_Right.j1 k x0 x3 true) else (if x3 > 0 then (if 0 ≤ (wrap64 (x3 - 1)) then (if (wrap64 (x3 - 1)) < (x0.length : Int) then (if ((rd_T76 x0 (wrap64 (x3 - 1))).f0) ≥ ((rd_T76 x0 x3).f0) then (counterfoilref07_Right.j1 k x0 x3 true) else (if (((rd_T76 x0 x3).f1).length : Int) < 1 then (counterfoilref07_Right.j1 k x0 x3 true) else (counterfoilref07_Right.j1 k x0 x3 (decide ((((rd_T76 x0 x3).f1).length : Int) > 32))))) else (none)) else (none)) else (if (((rd_T76 x0 x3).f1).length : Int) < 1 then (counterfoilref07_Right.j1 k x0 x3 true) else (counterfoilref07_Right.j1 k x0 x3 (decide ((((rd_T76 x0 x3).f1).length : Int) > 32))))))) else (none)) else (some true)
def counterfoilref07_Right.j1 : Nat → List (S76) → Int → Bool → Option (Bool)
  | 0, _, _, _ => none
  | k + 1, x0, x3, x63 => if x63 = true then (some false) else (counterfoilref07_Right.l1 k x0 x3 0)
def counterfoilref07_Right.l1 : Nat → List (S76) → Int → Int → Option (Bool)
  | 0, _, _, _ => none
  | k + 1, x0, x3, x4 => if 0 ≤ x3 then (if x3 < (x0.length : Int) then (if x4 < (((rd_T76 x0 x3).f1).length : Int) then (if 0 ≤ x4 then (if ((rdOf ByteArray.empty ((rd_T76 x0 x3).f1) x4).size : Int) > 8 then (some false) else (counterfoilref07_Right.l1 k x0 x3 (wrap64 (x4 + 1)))) else (none)) else (counterfoilref07_Right.l0 k x0 (wrap64 (x3 + 1)))) else (none)) else (none)
end
def counterfoilref07_Right.f (k : Nat) (l0 : List (S76)) : Option (Bool) := if (l0.length : Int) > 4 then (some false) else (counterfoilref07_Right.l0 k l0 0)
theorem counterfoilref07_Right.mono_l : ∀ k, (∀ y0 y1, LeO (counterfoilref07_Right.l0 k y0 y1) (counterfoilref07_Right.l0 (k + 1) y0 y1)) ∧ (∀ y0 y1 y2, LeO (counterfoilref07_Right.j1 k y0 y1 y2) (counterfoilref07_Right.j1 (k + 1) y0 y1 y2)) ∧ (∀ y0 y1 y2, LeO (counterfoilref07_Right.l1 k y0 y1 y2) (counterfoilref07_Right.l1 (k + 1) y0 y1 y2))
  | 0 => ⟨fun _ _ r h => by simp [counterfoilref07_Right.l0] at h, fun _ _ _ r h => by simp [counterfoilref07_Right.j1] at h, fun _ _ _ r h => by simp [counterfoilref07_Right.l1] at h⟩
  | k + 1 => by
    obtain ⟨ih0, ih1, ih2⟩ := counterfoilref07_Right.mono_l k
    refine ⟨?_, ?_, ?_⟩
    · intro y0 y1
      unfold counterfoilref07_Right.l0
      repeat' first
      | (with_reducible exact ih0 _ _)
      | (with_reducible exact ih1 _ _ _)
      | (with_reducible exact ih2 _ _ _)
      | (with_reducible exact LeO.refl _)
      | (with_reducible exact LeO.none _)
      | (with_reducible refine LeO.ite ?_ ?_)
      | (with_reducible refine LeO.bind ?_ (fun _ => ?_))
      | exact ih0 _ _
      | exact ih1 _ _ _
      | exact ih2 _ _ _
      | exact LeO.none _
      | refine LeO.ite ?_ ?_
      | refine LeO.bind ?_ (fun _ => ?_)
    · intro y0 y1 y2
      unfold counterfoilref07_Right.j1
      repeat' first
      | (with_reducible exact ih0 _ _)
      | (with_reducible exact ih1 _ _ _)
      | (with_reducible exact ih2 _ _ _)
      | (with_reducible exact LeO.refl _)
      | (with_reducible exact LeO.none _)
      | (with_reducible refine LeO.ite ?_ ?_)
      | (with_reducible refine LeO.bind ?_ (fun _ => ?_))
      | exact ih0 _ _
      | exact ih1 _ _ _
      | exact ih2 _ _ _
      | exact LeO.none _
      | refine LeO.ite ?_ ?_
      | refine LeO.bind ?_ (fun _ => ?_)
    · intro y0 y1 y2
      unfold counterfoilref07_Right.l1
      repeat' first
      | (with_reducible exact ih0 _ _)
      | (with_reducible exact ih1 _ _ _)
      | (with_reducible exact ih2 _ _ _)
      | (with_reducible exact LeO.refl _)
      | (with_reducible exact LeO.none _)
      | (with_reducible refine LeO.ite ?_ ?_)
      | (with_reducible refine LeO.bind ?_ (fun _ => ?_))
      | exact ih0 _ _
      | exact ih1 _ _ _
      | exact ih2 _ _ _
      | exact LeO.none _
      | refine LeO.ite ?_ ?_
      | refine LeO.bind ?_ (fun _ => ?_)
theorem counterfoilref07_Right.mono : ∀ a0 k, LeO (counterfoilref07_Right.f k a0) (counterfoilref07_Right.f (k + 1) a0) := by
  intro a0 k
  obtain ⟨ih0, ih1, ih2⟩ := counterfoilref07_Right.mono_l k
  unfold counterfoilref07_Right.f
  repeat' first
      | (with_reducible exact ih0 _ _)
      | (with_reducible exact ih1 _ _ _)
      | (with_reducible exact ih2 _ _ _)
      | (with_reducible exact LeO.refl _)
      | (with_reducible exact LeO.none _)
      | (with_reducible refine LeO.ite ?_ ?_)
      | (with_reducible refine LeO.bind ?_ (fun _ => ?_))
      | exact ih0 _ _
      | exact ih1 _ _ _
      | exact ih2 _ _ _
      | exact LeO.none _
      | refine LeO.ite ?_ ?_
      | refine LeO.bind ?_ (fun _ => ?_)
set_option maxHeartbeats 8000000 in
set_option maxRecDepth 100000 in
theorem counterfoilref07_Right.calls (k : Nat) (A0 : Option Addr) (c0 : Nat) (l0 : List (S76)) (r : Bool) (w : World) (hr0 : Kd.C k76 w A0 l0.length l0) (hc0 : l0.length ≤ c0) (h : counterfoilref07_Right.f k l0 = some r) :
    Calls Try.prog 26 #[.slice A0 l0.length c0] w fun e w' => e = .returned (.bool r) ∧ Drawn0 w w' := by
  have HR0 := Aside0.mk hr0
  have HC0 := Aside0.mk hc0
  clear hr0 hc0
  have H : (if (l0.length : Int) > 4 then (some false) else (counterfoilref07_Right.l0 k l0 0)) = some r := h
  clear h
  by_cases c2 : (l0.length : Int) > 4
  · rw [if_pos c2] at H
    have c2b0 : decide (4 < (l0.length : Int)) = true := decide_eq_true c2
    have c2b1 : decide (4 < l0.length) = true := decide_eq_true (by omega)
    clear c2
    obtain rfl := Option.some.inj H
    go_enter Try.func26, Try.ntmps26
    go_wp2
    repeat (go_quiet (fail); try go_wp2)
    go_ret
    exact ⟨by first | rfl | (simp; done) | (simp [*]; done), by repeat (first | exact Drawn0.refl _ | apply Drawn0.step)⟩
  · rw [if_neg c2] at H
    have c2b0 : decide (4 < (l0.length : Int)) = false := decide_eq_false c2
    have c2b1 : decide (4 < l0.length) = false := decide_eq_false (by omega)
    clear c2
    have H' := Aside0.mk H
    clear H
    go_enter Try.func26, Try.ntmps26
    go_wp2
    repeat (go_quiet (fail); try go_wp2)
    go_loopg [3] k (fun kq v3 w' => ∃ (x3_1 : Int), v3 = .int .i64 x3_1 ∧ Aside0 (counterfoilref07_Right.l0 kq l0 x3_1 = some r) ∧ Aside0 (kq ≤ k) ∧ Drawn0 w w')
    case atStart => exact ⟨(0), (by first | rfl | (simp; done) | (simp [*]; done)), H', ⟨Nat.le_refl _⟩, by repeat (first | exact Drawn0.refl _ | apply Drawn0.step)⟩
    case round =>
      clear H'
      try clear c2
      try clear c2b0
      try clear c2b1
      try clear p2
      obtain ⟨x3_1, rfl, HA, HK1, ⟨m1, rfl⟩⟩ := hrel
      cases gk with
      | zero => exact absurd HA.out (by simp [counterfoilref07_Right.l0])
      | succ k1 =>
        have H := HA.out
        clear HA
        simp only [counterfoilref07_Right.l0] at H
        by_cases c3 : x3_1 < (l0.length : Int)
        · rw [if_pos c3] at H
          have c3b0 : decide (x3_1 < (l0.length : Int)) = true := decide_eq_true c3
          clear c3
          have HC4 := Aside0.mk H
          clear H
          go_upto_region 6 with (fail)
          repeat (go_quiet (fail); go_upto_region 6 with (fail))
          go_cut [63] (fun v63 wc => ∃ (kq : Nat) (x63_3 : Bool), v63 = .bool x63_3 ∧ Aside0 (counterfoilref07_Right.j1 kq l0 x3_1 x63_3 = some r) ∧ Aside0 (kq ≤ k1) ∧ Drawn0 w wc)
          case first =>
            have H := HC4.out
            clear HC4
            by_cases c5 : 0 ≤ x3_1
            · rw [if_pos c5] at H
              have c5b0 : decide (0 ≤ x3_1) = true := decide_eq_true c5
              clear c5
              (first | rw [c5b0] | (simp only [i64_w, i32_w]; rw [c5b0]) | skip)
              by_cases c6 : ((rd_T76 l0 x3_1).f0) < 1
              · rw [if_pos c6] at H
                have c6b0 : decide (((rd_T76 l0 x3_1).f0) < 1) = true := decide_eq_true c6
                clear c6
                have H' := Aside0.mk H
                clear H
                have p305 : 0 ≤ (x3_1 : Int) := of_decide_eq_true (by first | (with_reducible assumption) | assumption)
                have q305 : x3_1 < (l0.length : Int) := of_decide_eq_true (by first | (with_reducible assumption) | assumption)
                obtain ⟨ad305, A305_1, c305_1, e305, hx305_0, hx305_1, hl305_1, hi305_1⟩ := at_T76 HR0.out x3_1 p305 q305
                cases e305
                have HR305_1 := Aside0.mk hi305_1
                have HC305_1 := Aside0.mk hl305_1
                clear hi305_1 hl305_1
                replace p305 := eq_true p305
                replace q305 := eq_true q305
                go_wp2
                repeat (go_quiet (fail); try go_wp2)
                go_meet
                case rel => exact ⟨_, (true), (by first | rfl | (simp; done) | (simp [*]; done)), H', ⟨by have := HK1.out; first | omega | exact Nat.le_refl _⟩, by repeat (first | exact Drawn0.refl _ | apply Drawn0.step)⟩
              · rw [if_neg c6] at H
                have c6b0 : decide (((rd_T76 l0 x3_1).f0) < 1) = false := decide_eq_false c6
                clear c6
                by_cases c7 : ((rd_T76 l0 x3_1).f0) > 255
                · rw [if_pos c7] at H
                  have c7b0 : decide (255 < ((rd_T76 l0 x3_1).f0)) = true := decide_eq_true c7
                  clear c7
                  have H' := Aside0.mk H
                  clear H
                  have p305 : 0 ≤ (x3_1 : Int) := of_decide_eq_true (by first | (with_reducible assumption) | assumption)
                  have q305 : x3_1 < (l0.length : Int) := of_decide_eq_true (by first | (with_reducible assumption) | assumption)
                  obtain ⟨ad305, A305_1, c305_1, e305, hx305_0, hx305_1, hl305_1, hi305_1⟩ := at_T76 HR0.out x3_1 p305 q305
                  cases e305
                  have HR305_1 := Aside0.mk hi305_1
                  have HC305_1 := Aside0.mk hl305_1
                  clear hi305_1 hl305_1
                  replace p305 := eq_true p305
                  replace q305 := eq_true q305
                  have p306 : 0 ≤ (x3_1 : Int) := of_decide_eq_true (by first | (with_reducible assumption) | assumption)
                  have q306 : x3_1 < (l0.length : Int) := of_decide_eq_true (by first | (with_reducible assumption) | assumption)
                  obtain ⟨ad306, A306_1, c306_1, e306, hx306_0, hx306_1, hl306_1, hi306_1⟩ := at_T76 HR0.out x3_1 p306 q306
                  obtain rfl : ad305 = ad306 := (by injection e306)
                  have HR306_1 := Aside0.mk hi306_1
                  have HC306_1 := Aside0.mk hl306_1
                  clear hi306_1 hl306_1
                  replace p306 := eq_true p306
                  replace q306 := eq_true q306
                  have ea_ := Option.some.inj (hx305_1.symm.trans hx306_1)
                  injection ea_ with ea_ en_ ec_
                  subst ea_
                  subst ec_
                  clear en_
                  go_wp2
                  repeat (go_quiet (fail); try go_wp2)
                  go_meet
                  case rel => exact ⟨_, (true), (by first | rfl | (simp; done) | (simp [*]; done)), H', ⟨by have := HK1.out; first | omega | exact Nat.le_refl _⟩, by repeat (first | exact Drawn0.refl _ | apply Drawn0.step)⟩
                · rw [if_neg c7] at H
                  have c7b0 : decide (255 < ((rd_T76 l0 x3_1).f0)) = false := decide_eq_false c7
                  clear c7
                  by_cases c8 : x3_1 > 0
                  · rw [if_pos c8] at H
                    have c8b0 : decide (0 < x3_1) = true := decide_eq_true c8
                    clear c8
                    obtain ⟨ji9, hji9⟩ : ∃ j_ : Int, (wrap64 (x3_1 - 1)) = j_ := ⟨_, rfl⟩
                    replace H : (if 0 ≤ (ji9) then (if (ji9) < (l0.length : Int) then (if ((rd_T76 l0 (ji9)).f0) ≥ ((rd_T76 l0 x3_1).f0) then (counterfoilref07_Right.j1 k1 l0 x3_1 true) else (if (((rd_T76 l0 x3_1).f1).length : Int) < 1 then (counterfoilref07_Right.j1 k1 l0 x3_1 true) else (counterfoilref07_Right.j1 k1 l0 x3_1 (decide ((((rd_T76 l0 x3_1).f1).length : Int) > 32))))) else (none)) else (none)) = some r := by first | (rw [hji9] at H; exact H) | (simp only [hji9] at H ⊢; exact H)
                    have hji9w : (IntKind.i64.wrap (x3_1 - 1)) = ji9 := (i64_w _).trans hji9
                    by_cases c10 : 0 ≤ (ji9)
                    · rw [if_pos c10] at H
                      have c10b0 : decide (0 ≤ (ji9)) = true := decide_eq_true c10
                      clear c10
                      by_cases c11 : (ji9) < (l0.length : Int)
                      · rw [if_pos c11] at H
                        have c11b0 : decide ((ji9) < (l0.length : Int)) = true := decide_eq_true c11
                        clear c11
                        by_cases c12 : ((rd_T76 l0 (ji9)).f0) ≥ ((rd_T76 l0 x3_1).f0)
                        · rw [if_pos c12] at H
                          have c12b0 : decide (((rd_T76 l0 x3_1).f0) ≤ ((rd_T76 l0 (ji9)).f0)) = true := decide_eq_true c12
                          clear c12
                          have H' := Aside0.mk H
                          clear H
                          have p305 : 0 ≤ (x3_1 : Int) := of_decide_eq_true (by first | (with_reducible assumption) | assumption)
                          have q305 : x3_1 < (l0.length : Int) := of_decide_eq_true (by first | (with_reducible assumption) | assumption)
                          obtain ⟨ad305, A305_1, c305_1, e305, hx305_0, hx305_1, hl305_1, hi305_1⟩ := at_T76 HR0.out x3_1 p305 q305
                          cases e305
                          have HR305_1 := Aside0.mk hi305_1
                          have HC305_1 := Aside0.mk hl305_1
                          clear hi305_1 hl305_1
                          replace p305 := eq_true p305
                          replace q305 := eq_true q305
                          have p306 : 0 ≤ (x3_1 : Int) := of_decide_eq_true (by first | (with_reducible assumption) | assumption)
                          have q306 : x3_1 < (l0.length : Int) := of_decide_eq_true (by first | (with_reducible assumption) | assumption)
                          obtain ⟨ad306, A306_1, c306_1, e306, hx306_0, hx306_1, hl306_1, hi306_1⟩ := at_T76 HR0.out x3_1 p306 q306
                          obtain rfl : ad305 = ad306 := (by injection e306)
                          have HR306_1 := Aside0.mk hi306_1
                          have HC306_1 := Aside0.mk hl306_1
                          clear hi306_1 hl306_1
                          replace p306 := eq_true p306
                          replace q306 := eq_true q306
                          have ea_ := Option.some.inj (hx305_1.symm.trans hx306_1)
                          injection ea_ with ea_ en_ ec_
                          subst ea_
                          subst ec_
                          clear en_
                          have p307 : 0 ≤ ((ji9) : Int) := of_decide_eq_true (by first | (with_reducible assumption) | assumption)
                          have q307 : (ji9) < (l0.length : Int) := of_decide_eq_true (by first | (with_reducible assumption) | assumption)
                          obtain ⟨ad307, A307_1, c307_1, e307, hx307_0, hx307_1, hl307_1, hi307_1⟩ := at_T76 HR0.out (ji9) p307 q307
                          obtain rfl : ad305 = ad307 := (by injection e307)
                          have HR307_1 := Aside0.mk hi307_1
                          have HC307_1 := Aside0.mk hl307_1
                          clear hi307_1 hl307_1
                          replace p307 := eq_true p307
                          replace q307 := eq_true q307
                          have p308 : 0 ≤ (x3_1 : Int) := of_decide_eq_true (by first | (with_reducible assumption) | assumption)
                          have q308 : x3_1 < (l0.length : Int) := of_decide_eq_true (by first | (with_reducible assumption) | assumption)
                          obtain ⟨ad308, A308_1, c308_1, e308, hx308_0, hx308_1, hl308_1, hi308_1⟩ := at_T76 HR0.out x3_1 p308 q308
                          obtain rfl : ad305 = ad308 := (by injection e308)
                          have HR308_1 := Aside0.mk hi308_1
                          have HC308_1 := Aside0.mk hl308_1
                          clear hi308_1 hl308_1
                          replace p308 := eq_true p308
                          replace q308 := eq_true q308
                          have ea_ := Option.some.inj (hx305_1.symm.trans hx308_1)
                          injection ea_ with ea_ en_ ec_
                          subst ea_
                          subst ec_
                          clear en_
                          go_wp2
                          repeat (go_quiet (fail); try go_wp2)
                          go_meet
                          case rel => exact ⟨_, (true), (by first | rfl | (simp; done) | (simp [*]; done)), H', ⟨by have := HK1.out; first | omega | exact Nat.le_refl _⟩, by repeat (first | exact Drawn0.refl _ | apply Drawn0.step)⟩
                        · rw [if_neg c12] at H
                          have c12b0 : decide (((rd_T76 l0 x3_1).f0) ≤ ((rd_T76 l0 (ji9)).f0)) = false := decide_eq_false c12
                          clear c12
                          by_cases c13 : (((rd_T76 l0 x3_1).f1).length : Int) < 1
                          · rw [if_pos c13] at H
                            have c13b0 : decide ((((rd_T76 l0 x3_1).f1).length : Int) < 1) = true := decide_eq_true c13
                            have c13b1 : decide (((rd_T76 l0 x3_1).f1).length < 1) = true := decide_eq_true (by omega)
                            clear c13
                            have H' := Aside0.mk H
                            clear H
                            have p305 : 0 ≤ (x3_1 : Int) := of_decide_eq_true (by first | (with_reducible assumption) | assumption)
                            have q305 : x3_1 < (l0.length : Int) := of_decide_eq_true (by first | (with_reducible assumption) | assumption)
                            obtain ⟨ad305, A305_1, c305_1, e305, hx305_0, hx305_1, hl305_1, hi305_1⟩ := at_T76 HR0.out x3_1 p305 q305
                            cases e305
                            have HR305_1 := Aside0.mk hi305_1
                            have HC305_1 := Aside0.mk hl305_1
                            clear hi305_1 hl305_1
                            replace p305 := eq_true p305
                            replace q305 := eq_true q305
                            have p306 : 0 ≤ (x3_1 : Int) := of_decide_eq_true (by first | (with_reducible assumption) | assumption)
                            have q306 : x3_1 < (l0.length : Int) := of_decide_eq_true (by first | (with_reducible assumption) | assumption)
                            obtain ⟨ad306, A306_1, c306_1, e306, hx306_0, hx306_1, hl306_1, hi306_1⟩ := at_T76 HR0.out x3_1 p306 q306
                            obtain rfl : ad305 = ad306 := (by injection e306)
                            have HR306_1 := Aside0.mk hi306_1
                            have HC306_1 := Aside0.mk hl306_1
                            clear hi306_1 hl306_1
                            replace p306 := eq_true p306
                            replace q306 := eq_true q306
                            have ea_ := Option.some.inj (hx305_1.symm.trans hx306_1)
                            injection ea_ with ea_ en_ ec_
                            subst ea_
                            subst ec_
                            clear en_
                            have p307 : 0 ≤ ((ji9) : Int) := of_decide_eq_true (by first | (with_reducible assumption) | assumption)
                            have q307 : (ji9) < (l0.length : Int) := of_decide_eq_true (by first | (with_reducible assumption) | assumption)
                            obtain ⟨ad307, A307_1, c307_1, e307, hx307_0, hx307_1, hl307_1, hi307_1⟩ := at_T76 HR0.out (ji9) p307 q307
                            obtain rfl : ad305 = ad307 := (by injection e307)
                            have HR307_1 := Aside0.mk hi307_1
                            have HC307_1 := Aside0.mk hl307_1
                            clear hi307_1 hl307_1
                            replace p307 := eq_true p307
                            replace q307 := eq_true q307
                            have p308 : 0 ≤ (x3_1 : Int) := of_decide_eq_true (by first | (with_reducible assumption) | assumption)
                            have q308 : x3_1 < (l0.length : Int) := of_decide_eq_true (by first | (with_reducible assumption) | assumption)
                            obtain ⟨ad308, A308_1, c308_1, e308, hx308_0, hx308_1, hl308_1, hi308_1⟩ := at_T76 HR0.out x3_1 p308 q308
                            obtain rfl : ad305 = ad308 := (by injection e308)
                            have HR308_1 := Aside0.mk hi308_1
                            have HC308_1 := Aside0.mk hl308_1
                            clear hi308_1 hl308_1
                            replace p308 := eq_true p308
                            replace q308 := eq_true q308
                            have ea_ := Option.some.inj (hx305_1.symm.trans hx308_1)
                            injection ea_ with ea_ en_ ec_
                            subst ea_
                            subst ec_
                            clear en_
                            have p309 : 0 ≤ (x3_1 : Int) := of_decide_eq_true (by first | (with_reducible assumption) | assumption)
                            have q309 : x3_1 < (l0.length : Int) := of_decide_eq_true (by first | (with_reducible assumption) | assumption)
                            obtain ⟨ad309, A309_1, c309_1, e309, hx309_0, hx309_1, hl309_1, hi309_1⟩ := at_T76 HR0.out x3_1 p309 q309
                            obtain rfl : ad305 = ad309 := (by injection e309)
                            have HR309_1 := Aside0.mk hi309_1
                            have HC309_1 := Aside0.mk hl309_1
                            clear hi309_1 hl309_1
                            replace p309 := eq_true p309
                            replace q309 := eq_true q309
                            have ea_ := Option.some.inj (hx305_1.symm.trans hx309_1)
                            injection ea_ with ea_ en_ ec_
                            subst ea_
                            subst ec_
                            clear en_
                            go_wp2
                            repeat (go_quiet (fail); try go_wp2)
                            go_meet
                            case rel => exact ⟨_, (true), (by first | rfl | (simp; done) | (simp [*]; done)), H', ⟨by have := HK1.out; first | omega | exact Nat.le_refl _⟩, by repeat (first | exact Drawn0.refl _ | apply Drawn0.step)⟩
                          · rw [if_neg c13] at H
                            have c13b0 : decide ((((rd_T76 l0 x3_1).f1).length : Int) < 1) = false := decide_eq_false c13
                            have c13b1 : decide (((rd_T76 l0 x3_1).f1).length < 1) = false := decide_eq_false (by omega)
                            clear c13
                            have H' := Aside0.mk H
                            clear H
                            have p305 : 0 ≤ (x3_1 : Int) := of_decide_eq_true (by first | (with_reducible assumption) | assumption)
                            have q305 : x3_1 < (l0.length : Int) := of_decide_eq_true (by first | (with_reducible assumption) | assumption)
                            obtain ⟨ad305, A305_1, c305_1, e305, hx305_0, hx305_1, hl305_1, hi305_1⟩ := at_T76 HR0.out x3_1 p305 q305
                            cases e305
                            have HR305_1 := Aside0.mk hi305_1
                            have HC305_1 := Aside0.mk hl305_1
                            clear hi305_1 hl305_1
                            replace p305 := eq_true p305
                            replace q305 := eq_true q305
                            have p306 : 0 ≤ (x3_1 : Int) := of_decide_eq_true (by first | (with_reducible assumption) | assumption)
                            have q306 : x3_1 < (l0.length : Int) := of_decide_eq_true (by first | (with_reducible assumption) | assumption)
                            obtain ⟨ad306, A306_1, c306_1, e306, hx306_0, hx306_1, hl306_1, hi306_1⟩ := at_T76 HR0.out x3_1 p306 q306
                            obtain rfl : ad305 = ad306 := (by injection e306)
                            have HR306_1 := Aside0.mk hi306_1
                            have HC306_1 := Aside0.mk hl306_1
                            clear hi306_1 hl306_1
                            replace p306 := eq_true p306
                            replace q306 := eq_true q306
                            have ea_ := Option.some.inj (hx305_1.symm.trans hx306_1)
                            injection ea_ with ea_ en_ ec_
                            subst ea_
                            subst ec_
                            clear en_
                            have p307 : 0 ≤ ((ji9) : Int) := of_decide_eq_true (by first | (with_reducible assumption) | assumption)
                            have q307 : (ji9) < (l0.length : Int) := of_decide_eq_true (by first | (with_reducible assumption) | assumption)
                            obtain ⟨ad307, A307_1, c307_1, e307, hx307_0, hx307_1, hl307_1, hi307_1⟩ := at_T76 HR0.out (ji9) p307 q307
                            obtain rfl : ad305 = ad307 := (by injection e307)
                            have HR307_1 := Aside0.mk hi307_1
                            have HC307_1 := Aside0.mk hl307_1
                            clear hi307_1 hl307_1
                            replace p307 := eq_true p307
                            replace q307 := eq_true q307
                            have p308 : 0 ≤ (x3_1 : Int) := of_decide_eq_true (by first | (with_reducible assumption) | assumption)
                            have q308 : x3_1 < (l0.length : Int) := of_decide_eq_true (by first | (with_reducible assumption) | assumption)
                            obtain ⟨ad308, A308_1, c308_1, e308, hx308_0, hx308_1, hl308_1, hi308_1⟩ := at_T76 HR0.out x3_1 p308 q308
                            obtain rfl : ad305 = ad308 := (by injection e308)
                            have HR308_1 := Aside0.mk hi308_1
                            have HC308_1 := Aside0.mk hl308_1
                            clear hi308_1 hl308_1
                            replace p308 := eq_true p308
                            replace q308 := eq_true q308
                            have ea_ := Option.some.inj (hx305_1.symm.trans hx308_1)
                            injection ea_ with ea_ en_ ec_
                            subst ea_
                            subst ec_
                            clear en_
                            have p309 : 0 ≤ (x3_1 : Int) := of_decide_eq_true (by first | (with_reducible assumption) | assumption)
                            have q309 : x3_1 < (l0.length : Int) := of_decide_eq_true (by first | (with_reducible assumption) | assumption)
                            obtain ⟨ad309, A309_1, c309_1, e309, hx309_0, hx309_1, hl309_1, hi309_1⟩ := at_T76 HR0.out x3_1 p309 q309
                            obtain rfl : ad305 = ad309 := (by injection e309)
                            have HR309_1 := Aside0.mk hi309_1
                            have HC309_1 := Aside0.mk hl309_1
                            clear hi309_1 hl309_1
                            replace p309 := eq_true p309
                            replace q309 := eq_true q309
                            have ea_ := Option.some.inj (hx305_1.symm.trans hx309_1)
                            injection ea_ with ea_ en_ ec_
                            subst ea_
                            subst ec_
                            clear en_
                            have p310 : 0 ≤ (x3_1 : Int) := of_decide_eq_true (by first | (with_reducible assumption) | assumption)
                            have q310 : x3_1 < (l0.length : Int) := of_decide_eq_true (by first | (with_reducible assumption) | assumption)
                            obtain ⟨ad310, A310_1, c310_1, e310, hx310_0, hx310_1, hl310_1, hi310_1⟩ := at_T76 HR0.out x3_1 p310 q310
                            obtain rfl : ad305 = ad310 := (by injection e310)
                            have HR310_1 := Aside0.mk hi310_1
                            have HC310_1 := Aside0.mk hl310_1
                            clear hi310_1 hl310_1
                            replace p310 := eq_true p310
                            replace q310 := eq_true q310
                            have ea_ := Option.some.inj (hx305_1.symm.trans hx310_1)
                            injection ea_ with ea_ en_ ec_
                            subst ea_
                            subst ec_
                            clear en_
                            go_wp2
                            repeat (go_quiet (fail); try go_wp2)
                            go_meet
                            case rel => exact ⟨_, (decide ((((rd_T76 l0 x3_1).f1).length : Int) > 32)), (by first | rfl | (simp; done) | (simp [*]; done)), H', ⟨by have := HK1.out; first | omega | exact Nat.le_refl _⟩, by repeat (first | exact Drawn0.refl _ | apply Drawn0.step)⟩
                      · rw [if_neg c11] at H
                        exact absurd H (by simp)
                    · rw [if_neg c10] at H
                      exact absurd H (by simp)
                  · rw [if_neg c8] at H
                    have c8b0 : decide (0 < x3_1) = false := decide_eq_false c8
                    clear c8
                    by_cases c14 : (((rd_T76 l0 x3_1).f1).length : Int) < 1
                    · rw [if_pos c14] at H
                      have c14b0 : decide ((((rd_T76 l0 x3_1).f1).length : Int) < 1) = true := decide_eq_true c14
                      have c14b1 : decide (((rd_T76 l0 x3_1).f1).length < 1) = true := decide_eq_true (by omega)
                      clear c14
                      have H' := Aside0.mk H
                      clear H
                      have p305 : 0 ≤ (x3_1 : Int) := of_decide_eq_true (by first | (with_reducible assumption) | assumption)
                      have q305 : x3_1 < (l0.length : Int) := of_decide_eq_true (by first | (with_reducible assumption) | assumption)
                      obtain ⟨ad305, A305_1, c305_1, e305, hx305_0, hx305_1, hl305_1, hi305_1⟩ := at_T76 HR0.out x3_1 p305 q305
                      cases e305
                      have HR305_1 := Aside0.mk hi305_1
                      have HC305_1 := Aside0.mk hl305_1
                      clear hi305_1 hl305_1
                      replace p305 := eq_true p305
                      replace q305 := eq_true q305
                      have p306 : 0 ≤ (x3_1 : Int) := of_decide_eq_true (by first | (with_reducible assumption) | assumption)
                      have q306 : x3_1 < (l0.length : Int) := of_decide_eq_true (by first | (with_reducible assumption) | assumption)
                      obtain ⟨ad306, A306_1, c306_1, e306, hx306_0, hx306_1, hl306_1, hi306_1⟩ := at_T76 HR0.out x3_1 p306 q306
                      obtain rfl : ad305 = ad306 := (by injection e306)
                      have HR306_1 := Aside0.mk hi306_1
                      have HC306_1 := Aside0.mk hl306_1
                      clear hi306_1 hl306_1
                      replace p306 := eq_true p306
                      replace q306 := eq_true q306
                      have ea_ := Option.some.inj (hx305_1.symm.trans hx306_1)
                      injection ea_ with ea_ en_ ec_
                      subst ea_
                      subst ec_
                      clear en_
                      have p311 : 0 ≤ (x3_1 : Int) := of_decide_eq_true (by first | (with_reducible assumption) | assumption)
                      have q311 : x3_1 < (l0.length : Int) := of_decide_eq_true (by first | (with_reducible assumption) | assumption)
                      obtain ⟨ad311, A311_1, c311_1, e311, hx311_0, hx311_1, hl311_1, hi311_1⟩ := at_T76 HR0.out x3_1 p311 q311
                      obtain rfl : ad305 = ad311 := (by injection e311)
                      have HR311_1 := Aside0.mk hi311_1
                      have HC311_1 := Aside0.mk hl311_1
                      clear hi311_1 hl311_1
                      replace p311 := eq_true p311
                      replace q311 := eq_true q311
                      have ea_ := Option.some.inj (hx305_1.symm.trans hx311_1)
                      injection ea_ with ea_ en_ ec_
                      subst ea_
                      subst ec_
                      clear en_
                      go_wp2
                      repeat (go_quiet (fail); try go_wp2)
                      go_meet
                      case rel => exact ⟨_, (true), (by first | rfl | (simp; done) | (simp [*]; done)), H', ⟨by have := HK1.out; first | omega | exact Nat.le_refl _⟩, by repeat (first | exact Drawn0.refl _ | apply Drawn0.step)⟩
                    · rw [if_neg c14] at H
                      have c14b0 : decide ((((rd_T76 l0 x3_1).f1).length : Int) < 1) = false := decide_eq_false c14
                      have c14b1 : decide (((rd_T76 l0 x3_1).f1).length < 1) = false := decide_eq_false (by omega)
                      clear c14
                      have H' := Aside0.mk H
                      clear H
                      have p305 : 0 ≤ (x3_1 : Int) := of_decide_eq_true (by first | (with_reducible assumption) | assumption)
                      have q305 : x3_1 < (l0.length : Int) := of_decide_eq_true (by first | (with_reducible assumption) | assumption)
                      obtain ⟨ad305, A305_1, c305_1, e305, hx305_0, hx305_1, hl305_1, hi305_1⟩ := at_T76 HR0.out x3_1 p305 q305
                      cases e305
                      have HR305_1 := Aside0.mk hi305_1
                      have HC305_1 := Aside0.mk hl305_1
                      clear hi305_1 hl305_1
                      replace p305 := eq_true p305
                      replace q305 := eq_true q305
                      have p306 : 0 ≤ (x3_1 : Int) := of_decide_eq_true (by first | (with_reducible assumption) | assumption)
                      have q306 : x3_1 < (l0.length : Int) := of_decide_eq_true (by first | (with_reducible assumption) | assumption)
                      obtain ⟨ad306, A306_1, c306_1, e306, hx306_0, hx306_1, hl306_1, hi306_1⟩ := at_T76 HR0.out x3_1 p306 q306
                      obtain rfl : ad305 = ad306 := (by injection e306)
                      have HR306_1 := Aside0.mk hi306_1
                      have HC306_1 := Aside0.mk hl306_1
                      clear hi306_1 hl306_1
                      replace p306 := eq_true p306
                      replace q306 := eq_true q306
                      have ea_ := Option.some.inj (hx305_1.symm.trans hx306_1)
                      injection ea_ with ea_ en_ ec_
                      subst ea_
                      subst ec_
                      clear en_
                      have p311 : 0 ≤ (x3_1 : Int) := of_decide_eq_true (by first | (with_reducible assumption) | assumption)
                      have q311 : x3_1 < (l0.length : Int) := of_decide_eq_true (by first | (with_reducible assumption) | assumption)
                      obtain ⟨ad311, A311_1, c311_1, e311, hx311_0, hx311_1, hl311_1, hi311_1⟩ := at_T76 HR0.out x3_1 p311 q311
                      obtain rfl : ad305 = ad311 := (by injection e311)
                      have HR311_1 := Aside0.mk hi311_1
                      have HC311_1 := Aside0.mk hl311_1
                      clear hi311_1 hl311_1
                      replace p311 := eq_true p311
                      replace q311 := eq_true q311
                      have ea_ := Option.some.inj (hx305_1.symm.trans hx311_1)
                      injection ea_ with ea_ en_ ec_
                      subst ea_
                      subst ec_
                      clear en_
                      have p312 : 0 ≤ (x3_1 : Int) := of_decide_eq_true (by first | (with_reducible assumption) | assumption)
                      have q312 : x3_1 < (l0.length : Int) := of_decide_eq_true (by first | (with_reducible assumption) | assumption)
                      obtain ⟨ad312, A312_1, c312_1, e312, hx312_0, hx312_1, hl312_1, hi312_1⟩ := at_T76 HR0.out x3_1 p312 q312
                      obtain rfl : ad305 = ad312 := (by injection e312)
                      have HR312_1 := Aside0.mk hi312_1
                      have HC312_1 := Aside0.mk hl312_1
                      clear hi312_1 hl312_1
                      replace p312 := eq_true p312
                      replace q312 := eq_true q312
                      have ea_ := Option.some.inj (hx305_1.symm.trans hx312_1)
                      injection ea_ with ea_ en_ ec_
                      subst ea_
                      subst ec_
                      clear en_
                      go_wp2
                      repeat (go_quiet (fail); try go_wp2)
                      go_meet
                      case rel => exact ⟨_, (decide ((((rd_T76 l0 x3_1).f1).length : Int) > 32)), (by first | rfl | (simp; done) | (simp [*]; done)), H', ⟨by have := HK1.out; first | omega | exact Nat.le_refl _⟩, by repeat (first | exact Drawn0.refl _ | apply Drawn0.step)⟩
            · rw [if_neg c5] at H
              exact absurd H (by simp)
          case rest =>
            clear HC4
            try clear c1
            try clear c2
            try clear c2b0
            try clear c2b1
            try clear p2
            try clear c3
            try clear c3b0
            try clear p3
            try clear q3
            try clear hx3
            try clear c5
            try clear c5b0
            try clear c6
            try clear c6b0
            try clear p6
            try clear c7
            try clear c7b0
            try clear c8
            try clear c8b0
            try clear c10
            try clear c10b0
            try clear c11
            try clear c11b0
            try clear c12
            try clear c12b0
            try clear c13
            try clear c13b0
            try clear c13b1
            try clear c14
            try clear c14b0
            try clear c14b1
            try clear hx305_0
            try clear hx305_1
            try clear hx306_0
            try clear hx306_1
            try clear hx307_0
            try clear hx307_1
            try clear hx308_0
            try clear hx308_1
            try clear hx309_0
            try clear hx309_1
            try clear hx310_0
            try clear hx310_1
            try clear hx311_0
            try clear hx311_1
            try clear hx312_0
            try clear hx312_1
            try clear p2
            try clear p305
            try clear p306
            try clear p307
            try clear p308
            try clear p309
            try clear p310
            try clear p311
            try clear p312
            try clear q305
            try clear q306
            try clear q307
            try clear q308
            try clear q309
            try clear q310
            try clear q311
            try clear q312
            obtain ⟨kq, x63_3, rfl, HA, HJ3, ⟨mc3, rfl⟩⟩ := hcut
            cases kq with
            | zero => exact absurd HA.out (by simp [counterfoilref07_Right.j1])
            | succ kj3 =>
              have H := HA.out
              clear HA
              simp only [counterfoilref07_Right.j1] at H
              by_cases c15 : x63_3 = true
              · subst c15
                have H1 : (some false) = some r := by rw [if_pos rfl] at H; exact H
                clear H
                have H := H1
                clear H1
                obtain rfl := Option.some.inj H
                go_wp2
                repeat (go_quiet (fail); try go_wp2)
                go_ret
                exact ⟨by first | rfl | (simp; done) | (simp [*]; done), by repeat (first | exact Drawn0.refl _ | apply Drawn0.step)⟩
              · replace c15 := Bool.eq_false_iff.mpr c15
                subst c15
                have H1 : (counterfoilref07_Right.l1 kj3 l0 x3_1 0) = some r := by rw [if_neg (show ¬ (false = true) by decide)] at H; exact H
                clear H
                have H := H1
                clear H1
                have H' := Aside0.mk H
                clear H
                go_wp2
                repeat (go_quiet (fail); try go_wp2)
                go_loopg [4] kj3 (fun kq v4 w' => ∃ (x4_3 : Int), v4 = .int .i64 x4_3 ∧ Aside0 (counterfoilref07_Right.l1 kq l0 x3_1 x4_3 = some r) ∧ Aside0 (kq ≤ kj3) ∧ Drawn0 w w')
                case atStart => exact ⟨(0), (by first | rfl | (simp; done) | (simp [*]; done)), H', ⟨Nat.le_refl _⟩, by repeat (first | exact Drawn0.refl _ | apply Drawn0.step)⟩
                case round =>
                  clear H'
                  try clear c1
                  try clear c2
                  try clear c2b0
                  try clear c2b1
                  try clear p2
                  try clear c3
                  try clear c3b0
                  try clear p3
                  try clear q3
                  try clear hx3
                  try clear c5
                  try clear c5b0
                  try clear c6
                  try clear c6b0
                  try clear p6
                  try clear c7
                  try clear c7b0
                  try clear c8
                  try clear c8b0
                  try clear c10
                  try clear c10b0
                  try clear c11
                  try clear c11b0
                  try clear c12
                  try clear c12b0
                  try clear c13
                  try clear c13b0
                  try clear c13b1
                  try clear c14
                  try clear c14b0
                  try clear c14b1
                  try clear c15
                  try clear hx305_0
                  try clear hx305_1
                  try clear hx306_0
                  try clear hx306_1
                  try clear hx307_0
                  try clear hx307_1
                  try clear hx308_0
                  try clear hx308_1
                  try clear hx309_0
                  try clear hx309_1
                  try clear hx310_0
                  try clear hx310_1
                  try clear hx311_0
                  try clear hx311_1
                  try clear hx312_0
                  try clear hx312_1
                  try clear p2
                  try clear p3
                  try clear p305
                  try clear p306
                  try clear p307
                  try clear p308
                  try clear p309
                  try clear p310
                  try clear p311
                  try clear p312
                  try clear p6
                  try clear q3
                  try clear q305
                  try clear q306
                  try clear q307
                  try clear q308
                  try clear q309
                  try clear q310
                  try clear q311
                  try clear q312
                  obtain ⟨x4_3, rfl, HA, HK3, ⟨m3, rfl⟩⟩ := hrel
                  cases gk with
                  | zero => exact absurd HA.out (by simp [counterfoilref07_Right.l1])
                  | succ k3 =>
                    have H := HA.out
                    clear HA
                    simp only [counterfoilref07_Right.l1] at H
                    by_cases c16 : 0 ≤ x3_1
                    · rw [if_pos c16] at H
                      have c16b0 : decide (0 ≤ x3_1) = true := decide_eq_true c16
                      clear c16
                      by_cases c17 : x3_1 < (l0.length : Int)
                      · rw [if_pos c17] at H
                        have c17b0 : decide (x3_1 < (l0.length : Int)) = true := decide_eq_true c17
                        clear c17
                        by_cases c18 : x4_3 < (((rd_T76 l0 x3_1).f1).length : Int)
                        · rw [if_pos c18] at H
                          have c18b0 : decide (x4_3 < (((rd_T76 l0 x3_1).f1).length : Int)) = true := decide_eq_true c18
                          clear c18
                          by_cases c19 : 0 ≤ x4_3
                          · rw [if_pos c19] at H
                            have c19b0 : decide (0 ≤ x4_3) = true := decide_eq_true c19
                            clear c19
                            by_cases c20 : ((rdOf ByteArray.empty ((rd_T76 l0 x3_1).f1) x4_3).size : Int) > 8
                            · rw [if_pos c20] at H
                              have c20b0 : decide (8 < ((rdOf ByteArray.empty ((rd_T76 l0 x3_1).f1) x4_3).size : Int)) = true := decide_eq_true c20
                              have c20b1 : decide (8 < (rdOf ByteArray.empty ((rd_T76 l0 x3_1).f1) x4_3).size) = true := decide_eq_true (by omega)
                              clear c20
                              obtain rfl := Option.some.inj H
                              have p313 : 0 ≤ (x3_1 : Int) := of_decide_eq_true (by first | (with_reducible assumption) | assumption)
                              have q313 : x3_1 < (l0.length : Int) := of_decide_eq_true (by first | (with_reducible assumption) | assumption)
                              obtain ⟨ad313, A313_1, c313_1, e313, hx313_0, hx313_1, hl313_1, hi313_1⟩ := at_T76 HR0.out x3_1 p313 q313
                              cases e313
                              have HR313_1 := Aside0.mk hi313_1
                              have HC313_1 := Aside0.mk hl313_1
                              clear hi313_1 hl313_1
                              replace p313 := eq_true p313
                              replace q313 := eq_true q313
                              have p314 : 0 ≤ (x3_1 : Int) := of_decide_eq_true (by first | (with_reducible assumption) | assumption)
                              have q314 : x3_1 < (l0.length : Int) := of_decide_eq_true (by first | (with_reducible assumption) | assumption)
                              obtain ⟨ad314, A314_1, c314_1, e314, hx314_0, hx314_1, hl314_1, hi314_1⟩ := at_T76 HR0.out x3_1 p314 q314
                              obtain rfl : ad313 = ad314 := (by injection e314)
                              have HR314_1 := Aside0.mk hi314_1
                              have HC314_1 := Aside0.mk hl314_1
                              clear hi314_1 hl314_1
                              replace p314 := eq_true p314
                              replace q314 := eq_true q314
                              have ea_ := Option.some.inj (hx313_1.symm.trans hx314_1)
                              injection ea_ with ea_ en_ ec_
                              subst ea_
                              subst ec_
                              clear en_
                              have p315 : 0 ≤ (x4_3 : Int) := of_decide_eq_true (by first | (with_reducible assumption) | assumption)
                              have q315 : x4_3 < (((rd_T76 l0 x3_1).f1).length : Int) := of_decide_eq_true (by first | (with_reducible assumption) | assumption)
                              obtain ⟨ad315, e315, hx315_0⟩ := Kd.at_string HR314_1.out x4_3 p315 q315
                              cases e315
                              replace p315 := eq_true p315
                              replace q315 := eq_true q315
                              go_wp2
                              repeat (go_quiet (fail); try go_wp2)
                              go_ret
                              exact ⟨by first | rfl | (simp; done) | (simp [*]; done), by repeat (first | exact Drawn0.refl _ | apply Drawn0.step)⟩
                            · rw [if_neg c20] at H
                              have c20b0 : decide (8 < ((rdOf ByteArray.empty ((rd_T76 l0 x3_1).f1) x4_3).size : Int)) = false := decide_eq_false c20
                              have c20b1 : decide (8 < (rdOf ByteArray.empty ((rd_T76 l0 x3_1).f1) x4_3).size) = false := decide_eq_false (by omega)
                              clear c20
                              have H' := Aside0.mk H
                              clear H
                              have p313 : 0 ≤ (x3_1 : Int) := of_decide_eq_true (by first | (with_reducible assumption) | assumption)
                              have q313 : x3_1 < (l0.length : Int) := of_decide_eq_true (by first | (with_reducible assumption) | assumption)
                              obtain ⟨ad313, A313_1, c313_1, e313, hx313_0, hx313_1, hl313_1, hi313_1⟩ := at_T76 HR0.out x3_1 p313 q313
                              cases e313
                              have HR313_1 := Aside0.mk hi313_1
                              have HC313_1 := Aside0.mk hl313_1
                              clear hi313_1 hl313_1
                              replace p313 := eq_true p313
                              replace q313 := eq_true q313
                              have p314 : 0 ≤ (x3_1 : Int) := of_decide_eq_true (by first | (with_reducible assumption) | assumption)
                              have q314 : x3_1 < (l0.length : Int) := of_decide_eq_true (by first | (with_reducible assumption) | assumption)
                              obtain ⟨ad314, A314_1, c314_1, e314, hx314_0, hx314_1, hl314_1, hi314_1⟩ := at_T76 HR0.out x3_1 p314 q314
                              obtain rfl : ad313 = ad314 := (by injection e314)
                              have HR314_1 := Aside0.mk hi314_1
                              have HC314_1 := Aside0.mk hl314_1
                              clear hi314_1 hl314_1
                              replace p314 := eq_true p314
                              replace q314 := eq_true q314
                              have ea_ := Option.some.inj (hx313_1.symm.trans hx314_1)
                              injection ea_ with ea_ en_ ec_
                              subst ea_
                              subst ec_
                              clear en_
                              have p315 : 0 ≤ (x4_3 : Int) := of_decide_eq_true (by first | (with_reducible assumption) | assumption)
                              have q315 : x4_3 < (((rd_T76 l0 x3_1).f1).length : Int) := of_decide_eq_true (by first | (with_reducible assumption) | assumption)
                              obtain ⟨ad315, e315, hx315_0⟩ := Kd.at_string HR314_1.out x4_3 p315 q315
                              cases e315
                              replace p315 := eq_true p315
                              replace q315 := eq_true q315
                              go_wp2
                              repeat (go_quiet (fail); try go_wp2)
                              go_roundg k3
                              case measure => have := HK1.out; have := HJ3.out; have := HK3.out; omega
                              case rel => exact ⟨(wrap64 (x4_3 + 1)), (by first | rfl | (simp; done) | (simp [*]; done)), H', ⟨by have := HK1.out; have := HJ3.out; have := HK3.out; omega⟩, by repeat (first | exact Drawn0.refl _ | apply Drawn0.step)⟩
                          · rw [if_neg c19] at H
                            exact absurd H (by simp)
                        · rw [if_neg c18] at H
                          have c18b0 : decide (x4_3 < (((rd_T76 l0 x3_1).f1).length : Int)) = false := decide_eq_false c18
                          clear c18
                          have H' := Aside0.mk H
                          clear H
                          have p313 : 0 ≤ (x3_1 : Int) := of_decide_eq_true (by first | (with_reducible assumption) | assumption)
                          have q313 : x3_1 < (l0.length : Int) := of_decide_eq_true (by first | (with_reducible assumption) | assumption)
                          obtain ⟨ad313, A313_1, c313_1, e313, hx313_0, hx313_1, hl313_1, hi313_1⟩ := at_T76 HR0.out x3_1 p313 q313
                          cases e313
                          have HR313_1 := Aside0.mk hi313_1
                          have HC313_1 := Aside0.mk hl313_1
                          clear hi313_1 hl313_1
                          replace p313 := eq_true p313
                          replace q313 := eq_true q313
                          go_wp2
                          repeat (go_quiet (fail); try go_wp2)
                          go_roundg k3
                          case measure => have := HK1.out; have := HJ3.out; have := HK3.out; omega
                          case rel => exact ⟨(wrap64 (x3_1 + 1)), (by first | rfl | (simp; done) | (simp [*]; done)), H', ⟨by have := HK1.out; have := HJ3.out; have := HK3.out; omega⟩, by repeat (first | exact Drawn0.refl _ | apply Drawn0.step)⟩
                      · rw [if_neg c17] at H
                        exact absurd H (by simp)
                    · rw [if_neg c16] at H
                      exact absurd H (by simp)
        · rw [if_neg c3] at H
          have c3b0 : decide (x3_1 < (l0.length : Int)) = false := decide_eq_false c3
          clear c3
          obtain rfl := Option.some.inj H
          go_wp2
          repeat (go_quiet (fail); try go_wp2)
          go_ret
          exact ⟨by first | rfl | (simp; done) | (simp [*]; done), by repeat (first | exact Drawn0.refl _ | apply Drawn0.step)⟩

end Go.Proofs.Ytcigkejiompieaa.P
