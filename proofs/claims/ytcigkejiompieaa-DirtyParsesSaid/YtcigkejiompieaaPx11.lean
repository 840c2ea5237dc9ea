-- Printed by this session's own program wip/mprint.py
import Derived.Test.YtcigkejiompieaaPx0
import Derived.Test.YtcigkejiompieaaPx2
import Derived.Test.YtcigkejiompieaaPx4
import Derived.Test.YtcigkejiompieaaPx6
import Derived.Test.YtcigkejiompieaaPx9
namespace Go.Proofs.Ytcigkejiompieaa.P
open Go.RowKit Go.Proofs.YtcigkejiompieaaW.PrintWords Go.Proofs.YtcigkejiompieaaW.PrintLast Go.Proofs.YtcigkejiompieaaW.PrintMore
attribute [local go_sem] max2_int min2_int max_two min_two max_three min_three max_four min_four   -- for this text's walks alone
set_option linter.unusedVariables false
set_option linter.unusedSimpArgs false

/-! ### counterfoilref10_Parse: function 21 -/
mutual
def counterfoilref10_Parse.j0 : Nat → ByteArray → Bool → Option ((List (S63)) × ByteArray × Int)
  | 0, _, _ => none
  | k + 1, x0, x20 => if x20 = true then (some (([] : List (S63)), (⟨#[]⟩ : ByteArray), 2)) else (counterfoilref10_Parse.l0 k x0 ([] : List (S63)) 0)
def counterfoilref10_Parse.l0 : Nat → ByteArray → List (S63) → Int → Option ((List (S63)) × ByteArray × Int)
  | 0, _, _, _ => none
  | k + 1, x0, x5, x6 => if 0 < (x0.size : Int) then (if x6 < (wrap64 (bt x0 0)) then (if 0 ≤ (wrap64 (1 + (wrap64 (5 * x6)))) then (if (wrap64 (1 + (wrap64 (5 * x6)))) ≤ (wrap64 (6 + (wrap64 (5 * x6)))) then (if (wrap64 (6 + (wrap64 (5 * x6)))) ≤ (x0.size : Int) then (if 0 < ((x0.extract ((wrap64 (1 + (wrap64 (5 * x6)))) : Int).toNat ((wrap64 (6 + (wrap64 (5 * x6)))) : Int).toNat).size : Int) then (if 1 < ((x0.extract ((wrap64 (1 + (wrap64 (5 * x6)))) : Int).toNat ((wrap64 (6 + (wrap64 (5 * x6)))) : Int).toNat).size : Int) then (if 2 < ((x0.extract ((wrap64 (1 + (wrap64 (5 * x6)))) : Int).toNat ((wrap64 (6 + (wrap64 (5 * x6)))) : Int).toNat).size : Int) then (if 3 < ((x0.extract ((wrap64 (1 + (wrap64 (5 * x6)))) : Int).toNat ((wrap64 (6 + (wrap64 (5 * x6)))) : Int).toNat).size : Int) then (if 4 < ((x0.extract ((wrap64 (1 + (wrap64 (5 * x6)))) : Int).toNat ((wrap64 (6 + (wrap64 (5 * x6)))) : Int).toNat).size : Int) then (if x5.length < 8796093022208 then (counterfoilref10_Parse.l0 k x0 (x5 ++ [(⟨wrap64 (bt (x0.extract ((wrap64 (1 + (wrap64 (5 * x6)))) : Int).toNat ((wrap64 (6 + (wrap64 (5 * x6)))) : Int).toNat) 0), IntKind.u64.wrap ((IntKind.u64.wrap ((IntKind.u64.wrap ((IntKind.u64.wrap ((IntKind.u64.wrap (bt (x0.extract ((wrap64 (1 + (wrap64 (5 * x6)))) : Int).toNat ((wrap64 (6 + (wrap64 (5 * x6)))) : Int).toNat) 1)) * 16777216)) + (IntKind.u64.wrap ((IntKind.u64.wrap (bt (x0.extract ((wrap64 (1 + (wrap64 (5 * x6)))) : Int).toNat ((wrap64 (6 + (wrap64 (5 * x6)))) : Int).toNat) 2)) * 65536)))) + (IntKind.u64.wrap ((IntKind.u64.wrap (bt (x0.extract ((wrap64 (1 + (wrap64 (5 * x6)))) : Int).toNat ((wrap64 (6 + (wrap64 (5 * x6)))) : Int).toNat) 3)) * 256)))) + (IntKind.u64.wrap (bt (x0.extract ((wrap64 (1 + (wrap64 (5 * x6)))) : Int).toNat ((wrap64 (6 + (wrap64 (5 * x6)))) : Int).toNat) 4)))⟩ : S63)]) (wrap64 (x6 + 1))) else (none)) else (none)) else (none)) else (none)) else (none)) else (none)) else (none)) else (none)) else (none)) else ((counterfoilref10_Right.f k x5).bind fun t276 => (if t276 = true then (if 0 ≤ (wrap64 (1 + (wrap64 (5 * (wrap64 (bt x0 0)))))) then (if (wrap64 (1 + (wrap64 (5 * (wrap64 (bt x0 0)))))) ≤ (x0.size : Int) then (some (x5, x0.extract ((wrap64 (1 + (wrap64 (5 * (wrap64 (bt x0 0)))))) : Int).toNat x0.size, 0)) else (none)) else (none)) else (some (([] : List (S63)), (⟨#[]⟩ : ByteArray), 3))))) else (none)
end
def counterfoilref10_Parse.f (k : Nat) (a0 : ByteArray) : Option ((List (S63)) × ByteArray × Int) := if (a0.size : Int) = 0 then (counterfoilref10_Parse.j0 k a0 true) else (if 0 < (a0.size : Int) then (counterfoilref10_Parse.j0 k a0 (decide ((wrap64 ((a0.size : Int) - 1)) < (wrap64 (5 * (wrap64 (bt a0 0))))))) else (none))
theorem counterfoilref10_Parse.mono_l : ∀ k, (∀ y0 y1, LeO (counterfoilref10_Parse.j0 k y0 y1) (counterfoilref10_Parse.j0 (k + 1) y0 y1)) ∧ (∀ y0 y1 y2, LeO (counterfoilref10_Parse.l0 k y0 y1 y2) (counterfoilref10_Parse.l0 (k + 1) y0 y1 y2))
  | 0 => ⟨fun _ _ r h => by simp [counterfoilref10_Parse.j0] at h, fun _ _ _ r h => by simp [counterfoilref10_Parse.l0] at h⟩
  | k + 1 => by
    obtain ⟨ih0, ih1⟩ := counterfoilref10_Parse.mono_l k
    refine ⟨?_, ?_⟩
    · intro y0 y1
      unfold counterfoilref10_Parse.j0
      repeat' first
      | (with_reducible exact ih0 _ _)
      | (with_reducible exact ih1 _ _ _)
      | (with_reducible exact counterfoilref10_Right.mono _ _)
      | (with_reducible exact LeO.refl _)
      | (with_reducible exact LeO.none _)
      | (with_reducible refine LeO.ite ?_ ?_)
      | (with_reducible refine LeO.bind ?_ (fun _ => ?_))
      | exact ih0 _ _
      | exact ih1 _ _ _
      | exact counterfoilref10_Right.mono _ _
      | exact LeO.none _
      | refine LeO.ite ?_ ?_
      | refine LeO.bind ?_ (fun _ => ?_)
    · intro y0 y1 y2
      unfold counterfoilref10_Parse.l0
      repeat' first
      | (with_reducible exact ih0 _ _)
      | (with_reducible exact ih1 _ _ _)
      | (with_reducible exact counterfoilref10_Right.mono _ _)
      | (with_reducible exact LeO.refl _)
      | (with_reducible exact LeO.none _)
      | (with_reducible refine LeO.ite ?_ ?_)
      | (with_reducible refine LeO.bind ?_ (fun _ => ?_))
      | exact ih0 _ _
      | exact ih1 _ _ _
      | exact counterfoilref10_Right.mono _ _
      | exact LeO.none _
      | refine LeO.ite ?_ ?_
      | refine LeO.bind ?_ (fun _ => ?_)
theorem counterfoilref10_Parse.mono : ∀ a0 k, LeO (counterfoilref10_Parse.f k a0) (counterfoilref10_Parse.f (k + 1) a0) := by
  intro a0 k
  obtain ⟨ih0, ih1⟩ := counterfoilref10_Parse.mono_l k
  unfold counterfoilref10_Parse.f
  repeat' first
      | (with_reducible exact ih0 _ _)
      | (with_reducible exact ih1 _ _ _)
      | (with_reducible exact counterfoilref10_Right.mono _ _)
      | (with_reducible exact LeO.refl _)
      | (with_reducible exact LeO.none _)
      | (with_reducible refine LeO.ite ?_ ?_)
      | (with_reducible refine LeO.bind ?_ (fun _ => ?_))
      | exact ih0 _ _
      | exact ih1 _ _ _
      | exact counterfoilref10_Right.mono _ _
      | exact LeO.none _
      | refine LeO.ite ?_ ?_
      | refine LeO.bind ?_ (fun _ => ?_)
def counterfoilref10_Parse.T8 : Bool × List (List Nat × List Nat) := (true, [([], []), ([], []), ([1], [1]), ([2], [2]), ([], []), ([4], [4]), ([5], [5]), ([6], [6]), ([], []), ([8], [8]), ([9], [9]), ([10], [10]), ([7, 11], [7, 11]), ([], []), ([13], [13]), ([14], [14]), ([15], [15]), ([12, 16], [12, 16]), ([], []), ([18], [18]), ([19], [19]), ([17, 20], [17, 20]), ([3, 21], [3, 21]), ([22], [22]), ([0, 23], [0, 23]), ([24, 24, 0, 1, 2, 3, 4, 5, 6, 7, 8, 9, 10, 11, 12, 13, 14, 15, 16, 17, 18, 19, 20, 21, 22, 23, 24], [0, 24])])
def counterfoilref10_Parse.B8 : List Nat := [0, 0, 2, 6, 0, 16, 48, 112, 0, 256, 768, 1792, 4080, 0, 8192, 24576, 57344, 131056, 0, 262144, 786432, 2097136, 4194302, 8388606, 16777215, 33554431]
theorem counterfoilref10_Parse.tab8 : rtab .any (opsOf Try.f21 8) = counterfoilref10_Parse.T8 := by kernel_rfl
theorem counterfoilref10_Parse.bits8 : waitsOk counterfoilref10_Parse.T8.2 counterfoilref10_Parse.B8 = true := by kernel_rfl
def counterfoilref10_Parse.T11 : Bool × List (List Nat × List Nat) := (true, [([], []), ([], []), ([], []), ([2], [2]), ([3], [3]), ([4], [4]), ([5], [5]), ([1, 6], [1, 6]), ([0, 0], [0]), ([7, 8, 0, 1, 2, 3, 4, 5, 6, 7, 8], [7]), ([9, 0, 1, 2, 3, 4, 5, 6, 7, 8, 9], [])])
def counterfoilref10_Parse.B11 : List Nat := [0, 0, 0, 4, 12, 28, 60, 126, 1, 511, 1023]
theorem counterfoilref10_Parse.tab11 : rtab .any (opsOf Try.f21 11) = counterfoilref10_Parse.T11 := by kernel_rfl
theorem counterfoilref10_Parse.bits11 : waitsOk counterfoilref10_Parse.T11.2 counterfoilref10_Parse.B11 = true := by kernel_rfl
set_option maxHeartbeats 8000000 in
set_option maxRecDepth 100000 in
theorem counterfoilref10_Parse.calls (k : Nat) (a0 : ByteArray) (r1 : List (S63)) (r2 : ByteArray) (r3 : Int) (w : World) (h : counterfoilref10_Parse.f k a0 = some (r1, r2, r3)) :
    Calls Try.prog 21 #[.string a0] w fun e w' => ∃ v0_ : Value, e = .returned (.tuple #[v0_, .string r2, .int .i64 r3]) ∧ Kd.R k63 63 w' w.heap.size (fun _ => True) v0_ r1 ∧ Below w.heap.size w w' := by
  have hu63 := Try.underlying63
  have HB := Aside0.mk (Below.refl w.heap.size w)
  have H : (if (a0.size : Int) = 0 then (counterfoilref10_Parse.j0 k a0 true) else (if 0 < (a0.size : Int) then (counterfoilref10_Parse.j0 k a0 (decide ((wrap64 ((a0.size : Int) - 1)) < (wrap64 (5 * (wrap64 (bt a0 0))))))) else (none))) = some (r1, r2, r3) := h
  clear h
  have HC2 := Aside0.mk H
  clear H
  go_enter Try.func21, Try.ntmps21
  go_upto_region 1 with (fail)
  go_cut [20] (fun v20 wc => ∃ (kq : Nat) (x20_1 : Bool), v20 = .bool x20_1 ∧ Aside0 (counterfoilref10_Parse.j0 kq a0 x20_1 = some (r1, r2, r3)) ∧ Aside0 (kq ≤ k) ∧ Aside0 (Below w.heap.size w wc))
  case first =>
    have H := HC2.out
    clear HC2
    by_cases c3 : (a0.size : Int) = 0
    · rw [if_pos c3] at H
      have c3b0 : ((a0.size : Int) == 0) = true := beq_iff_eq.mpr c3
      have c3b1 : ((a0.size : Int) != 0) = false := bne_eq_false_iff_eq.mpr c3
      clear c3
      (first | rw [c3b0] | (simp only [i64_w, i32_w]; rw [c3b0]) | skip)
      have H' := Aside0.mk H
      clear H
      go_wp2
      go_meet
      case rel => exact ⟨_, (true), (by first | rfl | (simp; done) | (simp [*]; done)), H', ⟨by first | omega | exact Nat.le_refl _⟩, ⟨by repeat (first | (with_reducible first | exact HB.out | apply below_alloc | apply pw_below_drewN | apply below_drew1) | exact HB.out)⟩⟩
    · rw [if_neg c3] at H
      have c3b0 : ((a0.size : Int) == 0) = false := beq_eq_false_iff_ne.mpr c3
      have c3b1 : ((a0.size : Int) != 0) = true := bne_iff_ne.mpr c3
      (first | rw [c3b0] | (simp only [i64_w, i32_w]; rw [c3b0]) | skip)
      by_cases c4 : 0 < (a0.size : Int)
      · rw [if_pos c4] at H
        have c4b0 : decide (0 < (a0.size : Int)) = true := decide_eq_true c4
        have c4b1 : decide (0 < a0.size) = true := decide_eq_true (by omega)
        clear c4
        have H' := Aside0.mk H
        clear H
        have p5 : 0 ≤ (0 : Int) := (by omega)
        have q5 : 0 < a0.size := (by have : (0 : Int) < (a0.size : Int) := of_decide_eq_true (by first | (with_reducible assumption) | assumption); omega)
        have hx5 : ∀ h : 0 < a0.size, ((a0[0]'h).toNat : Int) = bt a0 0 := bt_at a0 0
        clear p5
        have qi5 : (0 < (a0.size : Int)) = True := eq_true (of_decide_eq_true (by first | (with_reducible assumption) | assumption))
        replace q5 := eq_true q5
        go_wp2
        go_meet
        case rel => exact ⟨_, (decide ((wrap64 ((a0.size : Int) - 1)) < (wrap64 (5 * (wrap64 (bt a0 0)))))), (by first | rfl | (simp; done) | (simp [*]; done)), H', ⟨by first | omega | exact Nat.le_refl _⟩, ⟨by repeat (first | (with_reducible first | exact HB.out | apply below_alloc | apply pw_below_drewN | apply below_drew1) | exact HB.out)⟩⟩
      · rw [if_neg c4] at H
        exact absurd H (by simp)
  case rest =>
    clear HC2
    try clear c2
    try clear p2
    try clear c3
    try clear c3b0
    try clear c3b1
    try clear c4
    try clear c4b0
    try clear c4b1
    try clear p5
    try clear q5
    try clear hx5
    try clear qi5
    try clear p5
    try clear q5
    obtain ⟨kq, x20_1, rfl, HA, HJ1, HB⟩ := hcut
    cases kq with
    | zero => exact absurd HA.out (by simp [counterfoilref10_Parse.j0])
    | succ kj1 =>
      have H := HA.out
      clear HA
      simp only [counterfoilref10_Parse.j0] at H
      by_cases c6 : x20_1 = true
      · subst c6
        have H1 : (some (([] : List (S63)), (⟨#[]⟩ : ByteArray), 2)) = some (r1, r2, r3) := by rw [if_pos rfl] at H; exact H
        clear H
        have H := H1
        clear H1
        simp only [Option.some.injEq, Prod.mk.injEq] at H
        obtain ⟨rfl, rfl, rfl⟩ := H
        go_wp2
        go_ret3
        exact ⟨_, by first | rfl | (simp [errW_none, errW_some] <;> rfl) | (simp [*, errW_none, errW_some] <;> rfl), by first | exact Kd.R_nil _ _ _ _ _ | exact Kd.N_nil _ _ _ _ _ | exact Kd.V_nil _ _ _ _ _ | exact Kd.Q_nil _ _ _ _ _ | exact Kd.S_nil _ _ _ _ _, by repeat (first | (with_reducible first | exact HB.out | apply below_alloc | apply pw_below_drewN | apply below_drew1) | exact HB.out)⟩
      · replace c6 := Bool.eq_false_iff.mpr c6
        subst c6
        have H1 : (counterfoilref10_Parse.l0 kj1 a0 ([] : List (S63)) 0) = some (r1, r2, r3) := by rw [if_neg (show ¬ (false = true) by decide)] at H; exact H
        clear H
        have H := H1
        clear H1
        have H' := Aside0.mk H
        clear H
        go_wp2
        go_loopg [5, 6] kj1 (fun kq v5 v6 w' => ∃ (x5_2 : List (S63)) (x6_2 : Int), v6 = .int .i64 x6_2 ∧ Aside0 (counterfoilref10_Parse.l0 kq a0 x5_2 x6_2 = some (r1, r2, r3)) ∧ Aside0 (kq ≤ kj1) ∧ Aside0 (Kd.R k63 63 w' w.heap.size (fun _ => True) v5 x5_2) ∧ Aside0 (Below w.heap.size w w'))
        case atStart => exact ⟨(([] : List (S63))), (0), (by first | rfl | (simp; done) | (simp [*]; done)), H', ⟨Nat.le_refl _⟩, ⟨by first | exact Kd.R_nil _ _ _ _ _ | exact Kd.N_nil _ _ _ _ _ | exact Kd.V_nil _ _ _ _ _ | exact Kd.Q_nil _ _ _ _ _ | exact Kd.S_nil _ _ _ _ _⟩, ⟨by repeat (first | (with_reducible first | exact HB.out | apply below_alloc | apply pw_below_drewN | apply below_drew1) | exact HB.out)⟩⟩
        case round =>
          clear H'
          try clear c2
          try clear p2
          try clear c3
          try clear c3b0
          try clear c3b1
          try clear c4
          try clear c4b0
          try clear c4b1
          try clear p5
          try clear q5
          try clear hx5
          try clear qi5
          try clear c6
          try clear p6
          try clear p2
          try clear p5
          try clear q5
          obtain ⟨x5_2, x6_2, rfl, HA, HK2, HO_5, HB⟩ := hrel
          cases gk with
          | zero => exact absurd HA.out (by simp [counterfoilref10_Parse.l0])
          | succ k2 =>
            have H := HA.out
            clear HA
            simp only [counterfoilref10_Parse.l0] at H
            by_cases c7 : 0 < (a0.size : Int)
            · rw [if_pos c7] at H
              have c7b0 : decide (0 < (a0.size : Int)) = true := decide_eq_true c7
              have c7b1 : decide (0 < a0.size) = true := decide_eq_true (by omega)
              clear c7
              by_cases c9 : x6_2 < (wrap64 (bt a0 0))
              · rw [if_pos c9] at H
                have c9b0 : decide (x6_2 < (wrap64 (bt a0 0))) = true := decide_eq_true c9
                clear c9
                obtain ⟨ji10, hji10⟩ : ∃ j_ : Int, (wrap64 (1 + (wrap64 (5 * x6_2)))) = j_ := ⟨_, rfl⟩
                replace H : (if 0 ≤ (ji10) then (if (ji10) ≤ (wrap64 (6 + (wrap64 (5 * x6_2)))) then (if (wrap64 (6 + (wrap64 (5 * x6_2)))) ≤ (a0.size : Int) then (if 0 < ((a0.extract ((ji10) : Int).toNat ((wrap64 (6 + (wrap64 (5 * x6_2)))) : Int).toNat).size : Int) then (if 1 < ((a0.extract ((ji10) : Int).toNat ((wrap64 (6 + (wrap64 (5 * x6_2)))) : Int).toNat).size : Int) then (if 2 < ((a0.extract ((ji10) : Int).toNat ((wrap64 (6 + (wrap64 (5 * x6_2)))) : Int).toNat).size : Int) then (if 3 < ((a0.extract ((ji10) : Int).toNat ((wrap64 (6 + (wrap64 (5 * x6_2)))) : Int).toNat).size : Int) then (if 4 < ((a0.extract ((ji10) : Int).toNat ((wrap64 (6 + (wrap64 (5 * x6_2)))) : Int).toNat).size : Int) then (if x5_2.length < 8796093022208 then (counterfoilref10_Parse.l0 k2 a0 (x5_2 ++ [(⟨wrap64 (bt (a0.extract ((ji10) : Int).toNat ((wrap64 (6 + (wrap64 (5 * x6_2)))) : Int).toNat) 0), IntKind.u64.wrap ((IntKind.u64.wrap ((IntKind.u64.wrap ((IntKind.u64.wrap ((IntKind.u64.wrap (bt (a0.extract ((ji10) : Int).toNat ((wrap64 (6 + (wrap64 (5 * x6_2)))) : Int).toNat) 1)) * 16777216)) + (IntKind.u64.wrap ((IntKind.u64.wrap (bt (a0.extract ((ji10) : Int).toNat ((wrap64 (6 + (wrap64 (5 * x6_2)))) : Int).toNat) 2)) * 65536)))) + (IntKind.u64.wrap ((IntKind.u64.wrap (bt (a0.extract ((ji10) : Int).toNat ((wrap64 (6 + (wrap64 (5 * x6_2)))) : Int).toNat) 3)) * 256)))) + (IntKind.u64.wrap (bt (a0.extract ((ji10) : Int).toNat ((wrap64 (6 + (wrap64 (5 * x6_2)))) : Int).toNat) 4)))⟩ : S63)]) (wrap64 (x6_2 + 1))) else (none)) else (none)) else (none)) else (none)) else (none)) else (none)) else (none)) else (none)) else (none)) = some (r1, r2, r3) := by first | (rw [hji10] at H; exact H) | (simp only [hji10] at H ⊢; exact H)
                have hji10w : (IntKind.i64.wrap (1 + (wrap64 (5 * x6_2)))) = ji10 := (i64_w _).trans hji10
                by_cases c11 : 0 ≤ (ji10)
                · rw [if_pos c11] at H
                  have c11b0 := eq_true c11
                  have c11b1 : decide (0 ≤ (ji10)) = true := decide_eq_true c11
                  clear c11
                  by_cases c12 : (ji10) ≤ (wrap64 (6 + (wrap64 (5 * x6_2))))
                  · rw [if_pos c12] at H
                    have c12b0 := eq_true c12
                    have c12b1 : decide ((ji10) ≤ (wrap64 (6 + (wrap64 (5 * x6_2))))) = true := decide_eq_true c12
                    by_cases c13 : (wrap64 (6 + (wrap64 (5 * x6_2)))) ≤ (a0.size : Int)
                    · rw [if_pos c13] at H
                      have c13b0 := eq_true c13
                      have c13b1 : decide ((wrap64 (6 + (wrap64 (5 * x6_2)))) ≤ (a0.size : Int)) = true := decide_eq_true c13
                      by_cases c14 : 0 < ((a0.extract ((ji10) : Int).toNat ((wrap64 (6 + (wrap64 (5 * x6_2)))) : Int).toNat).size : Int)
                      · rw [if_pos c14] at H
                        have c14b0 : decide (0 < ((a0.extract ((ji10) : Int).toNat ((wrap64 (6 + (wrap64 (5 * x6_2)))) : Int).toNat).size : Int)) = true := decide_eq_true c14
                        have c14b1 : decide (0 < (a0.extract ((ji10) : Int).toNat ((wrap64 (6 + (wrap64 (5 * x6_2)))) : Int).toNat).size) = true := decide_eq_true (by omega)
                        clear c14
                        by_cases c16 : 1 < ((a0.extract ((ji10) : Int).toNat ((wrap64 (6 + (wrap64 (5 * x6_2)))) : Int).toNat).size : Int)
                        · rw [if_pos c16] at H
                          have c16b0 : decide (1 < ((a0.extract ((ji10) : Int).toNat ((wrap64 (6 + (wrap64 (5 * x6_2)))) : Int).toNat).size : Int)) = true := decide_eq_true c16
                          have c16b1 : decide (1 < (a0.extract ((ji10) : Int).toNat ((wrap64 (6 + (wrap64 (5 * x6_2)))) : Int).toNat).size) = true := decide_eq_true (by omega)
                          clear c16
                          by_cases c18 : 2 < ((a0.extract ((ji10) : Int).toNat ((wrap64 (6 + (wrap64 (5 * x6_2)))) : Int).toNat).size : Int)
                          · rw [if_pos c18] at H
                            have c18b0 : decide (2 < ((a0.extract ((ji10) : Int).toNat ((wrap64 (6 + (wrap64 (5 * x6_2)))) : Int).toNat).size : Int)) = true := decide_eq_true c18
                            have c18b1 : decide (2 < (a0.extract ((ji10) : Int).toNat ((wrap64 (6 + (wrap64 (5 * x6_2)))) : Int).toNat).size) = true := decide_eq_true (by omega)
                            clear c18
                            by_cases c20 : 3 < ((a0.extract ((ji10) : Int).toNat ((wrap64 (6 + (wrap64 (5 * x6_2)))) : Int).toNat).size : Int)
                            · rw [if_pos c20] at H
                              have c20b0 : decide (3 < ((a0.extract ((ji10) : Int).toNat ((wrap64 (6 + (wrap64 (5 * x6_2)))) : Int).toNat).size : Int)) = true := decide_eq_true c20
                              have c20b1 : decide (3 < (a0.extract ((ji10) : Int).toNat ((wrap64 (6 + (wrap64 (5 * x6_2)))) : Int).toNat).size) = true := decide_eq_true (by omega)
                              clear c20
                              by_cases c22 : 4 < ((a0.extract ((ji10) : Int).toNat ((wrap64 (6 + (wrap64 (5 * x6_2)))) : Int).toNat).size : Int)
                              · rw [if_pos c22] at H
                                have c22b0 : decide (4 < ((a0.extract ((ji10) : Int).toNat ((wrap64 (6 + (wrap64 (5 * x6_2)))) : Int).toNat).size : Int)) = true := decide_eq_true c22
                                have c22b1 : decide (4 < (a0.extract ((ji10) : Int).toNat ((wrap64 (6 + (wrap64 (5 * x6_2)))) : Int).toNat).size) = true := decide_eq_true (by omega)
                                clear c22
                                by_cases c24 : x5_2.length < 8796093022208
                                · rw [if_pos c24] at H
                                  have LMc24 := Aside0.mk c24
                                  clear c24
                                  obtain ⟨y273, hy273⟩ : ∃ y_ : List (S63), y_ = (x5_2 ++ [(⟨wrap64 (bt (a0.extract ((ji10) : Int).toNat ((wrap64 (6 + (wrap64 (5 * x6_2)))) : Int).toNat) 0), IntKind.u64.wrap ((IntKind.u64.wrap ((IntKind.u64.wrap ((IntKind.u64.wrap ((IntKind.u64.wrap (bt (a0.extract ((ji10) : Int).toNat ((wrap64 (6 + (wrap64 (5 * x6_2)))) : Int).toNat) 1)) * 16777216)) + (IntKind.u64.wrap ((IntKind.u64.wrap (bt (a0.extract ((ji10) : Int).toNat ((wrap64 (6 + (wrap64 (5 * x6_2)))) : Int).toNat) 2)) * 65536)))) + (IntKind.u64.wrap ((IntKind.u64.wrap (bt (a0.extract ((ji10) : Int).toNat ((wrap64 (6 + (wrap64 (5 * x6_2)))) : Int).toNat) 3)) * 256)))) + (IntKind.u64.wrap (bt (a0.extract ((ji10) : Int).toNat ((wrap64 (6 + (wrap64 (5 * x6_2)))) : Int).toNat) 4)))⟩ : S63)]) := ⟨_, rfl⟩
                                  replace H : (counterfoilref10_Parse.l0 k2 a0 y273 (wrap64 (x6_2 + 1))) = some (r1, r2, r3) := by first | (rw [hy273]; with_reducible exact H) | (have H2_ := (Option.bind_some _ _).symm.trans H; rw [hy273]; with_reducible exact H2_) | (have H2_ := (Option.bind_some _ _).symm.trans H; with_reducible exact H2_) | with_reducible exact H | (rw [hy273]; exact H) | exact H
                                  have Ny273 := Aside0.mk hy273
                                  clear hy273
                                  have H' := Aside0.mk H
                                  clear H
                                  have p8 : 0 ≤ (0 : Int) := (by omega)
                                  have q8 : 0 < a0.size := (by have : (0 : Int) < (a0.size : Int) := of_decide_eq_true (by first | (with_reducible assumption) | assumption); omega)
                                  have hx8 : ∀ h : 0 < a0.size, ((a0[0]'h).toNat : Int) = bt a0 0 := bt_at a0 0
                                  clear p8
                                  have qi8 : (0 < (a0.size : Int)) = True := eq_true (of_decide_eq_true (by first | (with_reducible assumption) | assumption))
                                  replace q8 := eq_true q8
                                  try go_wp2
                                  have n0_ := Aside0.mk (Kd.R_drew HO_5.out)
                                  have n1_ := Aside0.mk (below_drew1 HB.out)
                                  clear HO_5
                                  clear HB
                                  have HO_5 := n0_
                                  have HB := n1_
                                  clear n0_ n1_
                                  have p15 : 0 ≤ (0 : Int) := (by omega)
                                  have q15 : 0 < (a0.extract ((ji10) : Int).toNat ((wrap64 (6 + (wrap64 (5 * x6_2)))) : Int).toNat).size := (by have : (0 : Int) < ((a0.extract ((ji10) : Int).toNat ((wrap64 (6 + (wrap64 (5 * x6_2)))) : Int).toNat).size : Int) := of_decide_eq_true (by first | (with_reducible assumption) | assumption); omega)
                                  have hx15 : ∀ h : 0 < (a0.extract ((ji10) : Int).toNat ((wrap64 (6 + (wrap64 (5 * x6_2)))) : Int).toNat).size, (((a0.extract ((ji10) : Int).toNat ((wrap64 (6 + (wrap64 (5 * x6_2)))) : Int).toNat)[0]'h).toNat : Int) = bt (a0.extract ((ji10) : Int).toNat ((wrap64 (6 + (wrap64 (5 * x6_2)))) : Int).toNat) 0 := bt_at (a0.extract ((ji10) : Int).toNat ((wrap64 (6 + (wrap64 (5 * x6_2)))) : Int).toNat) 0
                                  clear p15
                                  have qi15 : (0 < ((a0.extract ((ji10) : Int).toNat ((wrap64 (6 + (wrap64 (5 * x6_2)))) : Int).toNat).size : Int)) = True := eq_true (of_decide_eq_true (by first | (with_reducible assumption) | assumption))
                                  replace q15 := eq_true q15
                                  have q15z : (0 < (wrap64 (6 + (wrap64 (5 * x6_2)))).toNat - ji10.toNat) = True := eq_true (by have h := of_eq_true q15; rw [ByteArray.size_extract] at h; omega)
                                  have q15y : (0 < (((wrap64 (6 + (wrap64 (5 * x6_2)))).toNat - ji10.toNat : Nat) : Int)) = True := eq_true (by have h := of_eq_true q15z; omega)
                                  have p17 : 0 ≤ (1 : Int) := (by omega)
                                  have q17 : 1 < (a0.extract ((ji10) : Int).toNat ((wrap64 (6 + (wrap64 (5 * x6_2)))) : Int).toNat).size := (by have : (1 : Int) < ((a0.extract ((ji10) : Int).toNat ((wrap64 (6 + (wrap64 (5 * x6_2)))) : Int).toNat).size : Int) := of_decide_eq_true (by first | (with_reducible assumption) | assumption); omega)
                                  have hx17 : ∀ h : 1 < (a0.extract ((ji10) : Int).toNat ((wrap64 (6 + (wrap64 (5 * x6_2)))) : Int).toNat).size, (((a0.extract ((ji10) : Int).toNat ((wrap64 (6 + (wrap64 (5 * x6_2)))) : Int).toNat)[1]'h).toNat : Int) = bt (a0.extract ((ji10) : Int).toNat ((wrap64 (6 + (wrap64 (5 * x6_2)))) : Int).toNat) 1 := bt_at (a0.extract ((ji10) : Int).toNat ((wrap64 (6 + (wrap64 (5 * x6_2)))) : Int).toNat) 1
                                  clear p17
                                  have qi17 : (1 < ((a0.extract ((ji10) : Int).toNat ((wrap64 (6 + (wrap64 (5 * x6_2)))) : Int).toNat).size : Int)) = True := eq_true (of_decide_eq_true (by first | (with_reducible assumption) | assumption))
                                  replace q17 := eq_true q17
                                  have q17z : (1 < (wrap64 (6 + (wrap64 (5 * x6_2)))).toNat - ji10.toNat) = True := eq_true (by have h := of_eq_true q17; rw [ByteArray.size_extract] at h; omega)
                                  have q17y : (1 < (((wrap64 (6 + (wrap64 (5 * x6_2)))).toNat - ji10.toNat : Nat) : Int)) = True := eq_true (by have h := of_eq_true q17z; omega)
                                  have p19 : 0 ≤ (2 : Int) := (by omega)
                                  have q19 : 2 < (a0.extract ((ji10) : Int).toNat ((wrap64 (6 + (wrap64 (5 * x6_2)))) : Int).toNat).size := (by have : (2 : Int) < ((a0.extract ((ji10) : Int).toNat ((wrap64 (6 + (wrap64 (5 * x6_2)))) : Int).toNat).size : Int) := of_decide_eq_true (by first | (with_reducible assumption) | assumption); omega)
                                  have hx19 : ∀ h : 2 < (a0.extract ((ji10) : Int).toNat ((wrap64 (6 + (wrap64 (5 * x6_2)))) : Int).toNat).size, (((a0.extract ((ji10) : Int).toNat ((wrap64 (6 + (wrap64 (5 * x6_2)))) : Int).toNat)[2]'h).toNat : Int) = bt (a0.extract ((ji10) : Int).toNat ((wrap64 (6 + (wrap64 (5 * x6_2)))) : Int).toNat) 2 := bt_at (a0.extract ((ji10) : Int).toNat ((wrap64 (6 + (wrap64 (5 * x6_2)))) : Int).toNat) 2
                                  clear p19
                                  have qi19 : (2 < ((a0.extract ((ji10) : Int).toNat ((wrap64 (6 + (wrap64 (5 * x6_2)))) : Int).toNat).size : Int)) = True := eq_true (of_decide_eq_true (by first | (with_reducible assumption) | assumption))
                                  replace q19 := eq_true q19
                                  have q19z : (2 < (wrap64 (6 + (wrap64 (5 * x6_2)))).toNat - ji10.toNat) = True := eq_true (by have h := of_eq_true q19; rw [ByteArray.size_extract] at h; omega)
                                  have q19y : (2 < (((wrap64 (6 + (wrap64 (5 * x6_2)))).toNat - ji10.toNat : Nat) : Int)) = True := eq_true (by have h := of_eq_true q19z; omega)
                                  have p21 : 0 ≤ (3 : Int) := (by omega)
                                  have q21 : 3 < (a0.extract ((ji10) : Int).toNat ((wrap64 (6 + (wrap64 (5 * x6_2)))) : Int).toNat).size := (by have : (3 : Int) < ((a0.extract ((ji10) : Int).toNat ((wrap64 (6 + (wrap64 (5 * x6_2)))) : Int).toNat).size : Int) := of_decide_eq_true (by first | (with_reducible assumption) | assumption); omega)
                                  have hx21 : ∀ h : 3 < (a0.extract ((ji10) : Int).toNat ((wrap64 (6 + (wrap64 (5 * x6_2)))) : Int).toNat).size, (((a0.extract ((ji10) : Int).toNat ((wrap64 (6 + (wrap64 (5 * x6_2)))) : Int).toNat)[3]'h).toNat : Int) = bt (a0.extract ((ji10) : Int).toNat ((wrap64 (6 + (wrap64 (5 * x6_2)))) : Int).toNat) 3 := bt_at (a0.extract ((ji10) : Int).toNat ((wrap64 (6 + (wrap64 (5 * x6_2)))) : Int).toNat) 3
                                  clear p21
                                  have qi21 : (3 < ((a0.extract ((ji10) : Int).toNat ((wrap64 (6 + (wrap64 (5 * x6_2)))) : Int).toNat).size : Int)) = True := eq_true (of_decide_eq_true (by first | (with_reducible assumption) | assumption))
                                  replace q21 := eq_true q21
                                  have q21z : (3 < (wrap64 (6 + (wrap64 (5 * x6_2)))).toNat - ji10.toNat) = True := eq_true (by have h := of_eq_true q21; rw [ByteArray.size_extract] at h; omega)
                                  have q21y : (3 < (((wrap64 (6 + (wrap64 (5 * x6_2)))).toNat - ji10.toNat : Nat) : Int)) = True := eq_true (by have h := of_eq_true q21z; omega)
                                  have p23 : 0 ≤ (4 : Int) := (by omega)
                                  have q23 : 4 < (a0.extract ((ji10) : Int).toNat ((wrap64 (6 + (wrap64 (5 * x6_2)))) : Int).toNat).size := (by have : (4 : Int) < ((a0.extract ((ji10) : Int).toNat ((wrap64 (6 + (wrap64 (5 * x6_2)))) : Int).toNat).size : Int) := of_decide_eq_true (by first | (with_reducible assumption) | assumption); omega)
                                  have hx23 : ∀ h : 4 < (a0.extract ((ji10) : Int).toNat ((wrap64 (6 + (wrap64 (5 * x6_2)))) : Int).toNat).size, (((a0.extract ((ji10) : Int).toNat ((wrap64 (6 + (wrap64 (5 * x6_2)))) : Int).toNat)[4]'h).toNat : Int) = bt (a0.extract ((ji10) : Int).toNat ((wrap64 (6 + (wrap64 (5 * x6_2)))) : Int).toNat) 4 := bt_at (a0.extract ((ji10) : Int).toNat ((wrap64 (6 + (wrap64 (5 * x6_2)))) : Int).toNat) 4
                                  clear p23
                                  have qi23 : (4 < ((a0.extract ((ji10) : Int).toNat ((wrap64 (6 + (wrap64 (5 * x6_2)))) : Int).toNat).size : Int)) = True := eq_true (of_decide_eq_true (by first | (with_reducible assumption) | assumption))
                                  replace q23 := eq_true q23
                                  have q23z : (4 < (wrap64 (6 + (wrap64 (5 * x6_2)))).toNat - ji10.toNat) = True := eq_true (by have h := of_eq_true q23; rw [ByteArray.size_extract] at h; omega)
                                  have q23y : (4 < (((wrap64 (6 + (wrap64 (5 * x6_2)))).toNat - ji10.toNat : Nat) : Int)) = True := eq_true (by have h := of_eq_true q23z; omega)
                                  refine start_ (n := 26) (S := fun w' => True) (ds := []) #[false, false, false, false, false, false, false, false, false, false, false, false, false, false, false, false, false, false, false, false, false, false, false, false, false, false] (by kernel_rfl) rfl rfl trivial (fun hHeld => ?_); refine with_tabW counterfoilref10_Parse.tab8 counterfoilref10_Parse.bits8 (fun HT_ HW_ => ?_)
                                  generalize wr.drew = w25 at HO_5 HB hHeld ⊢
                                  refine pure_ (i := 0) (N := some 36) (v := ?_) (a' := ?_) #[true, false, false, false, false, false, false, false, false, false, false, false, false, false, false, false, false, false, false, false, false, false, false, false, false, false] rfl rfl (any_of HT_.out (by kernel_rfl)) (fun _ _ _ h => h) (Or.inl ⟨by rfl, ?_⟩) ?_ ?_
                                  rotate_left
                                  · intro w'
                                    go_simp
                                    with_reducible rfl
                                  rotate_left
                                  · simp only [Act.put, List.setIfInBounds_toArray, List.set_cons_zero, List.set_cons_succ, i64_w, i32_w]
                                    rfl
                                  refine pure_ (i := 1) (N := some 37) (v := ?_) (a' := ?_) #[true, true, false, false, false, false, false, false, false, false, false, false, false, false, false, false, false, false, false, false, false, false, false, false, false, false] rfl rfl (any_of HT_.out (by kernel_rfl)) (fun _ _ _ h => h) (Or.inl ⟨by rfl, ?_⟩) ?_ ?_
                                  rotate_left
                                  · intro w'
                                    go_simp
                                    with_reducible rfl
                                  rotate_left
                                  · simp only [Act.put, List.setIfInBounds_toArray, List.set_cons_zero, List.set_cons_succ, i64_w, i32_w]
                                    rfl
                                  refine pure_ (i := 4) (N := some 40) (v := ?_) (a' := ?_) #[true, true, false, false, true, false, false, false, false, false, false, false, false, false, false, false, false, false, false, false, false, false, false, false, false, false] rfl rfl (any_of HT_.out (by kernel_rfl)) (fun _ _ _ h => h) (Or.inl ⟨by rfl, ?_⟩) ?_ ?_
                                  rotate_left
                                  · intro w'
                                    go_simp
                                    with_reducible rfl
                                  rotate_left
                                  · simp only [Act.put, List.setIfInBounds_toArray, List.set_cons_zero, List.set_cons_succ, i64_w, i32_w]
                                    rfl
                                  refine pure_ (i := 8) (N := some 44) (v := ?_) (a' := ?_) #[true, true, false, false, true, false, false, false, true, false, false, false, false, false, false, false, false, false, false, false, false, false, false, false, false, false] rfl rfl (any_of HT_.out (by kernel_rfl)) (fun _ _ _ h => h) (Or.inl ⟨by rfl, ?_⟩) ?_ ?_
                                  rotate_left
                                  · intro w'
                                    go_simp
                                    with_reducible rfl
                                  rotate_left
                                  · simp only [Act.put, List.setIfInBounds_toArray, List.set_cons_zero, List.set_cons_succ, i64_w, i32_w]
                                    rfl
                                  refine pure_ (i := 13) (N := some 49) (v := ?_) (a' := ?_) #[true, true, false, false, true, false, false, false, true, false, false, false, false, true, false, false, false, false, false, false, false, false, false, false, false, false] rfl rfl (any_of HT_.out (by kernel_rfl)) (fun _ _ _ h => h) (Or.inl ⟨by rfl, ?_⟩) ?_ ?_
                                  rotate_left
                                  · intro w'
                                    go_simp
                                    with_reducible rfl
                                  rotate_left
                                  · simp only [Act.put, List.setIfInBounds_toArray, List.set_cons_zero, List.set_cons_succ, i64_w, i32_w]
                                    rfl
                                  refine pure_ (i := 18) (N := some 54) (v := ?_) (a' := ?_) #[true, true, false, false, true, false, false, false, true, false, false, false, false, true, false, false, false, false, true, false, false, false, false, false, false, false] rfl rfl (any_of HT_.out (by kernel_rfl)) (fun _ _ _ h => h) (Or.inl ⟨by rfl, ?_⟩) ?_ ?_
                                  rotate_left
                                  · intro w'
                                    go_simp
                                    with_reducible rfl
                                  rotate_left
                                  · simp only [Act.put, List.setIfInBounds_toArray, List.set_cons_zero, List.set_cons_succ, i64_w, i32_w]
                                    rfl
                                  refine take_ (i := 2) (N := some 38) (v := ?_) (a' := ?_) #[true, true, true, false, true, false, false, false, true, false, false, false, false, true, false, false, false, false, true, false, false, false, false, false, false, false] rfl rfl (take_ofW HT_.out HW_.out (by kernel_rfl)) (fun _ _ _ h => h) (Or.inl ⟨by rfl, ?_⟩) hHeld ?_ ?_
                                  rotate_left
                                  · intro w' _
                                    go_simp
                                    with_reducible rfl
                                  rotate_left
                                  · simp only [Act.put, List.setIfInBounds_toArray, List.set_cons_zero, List.set_cons_succ, i64_w, i32_w]
                                    rfl
                                  refine pure_ (i := 3) (N := some 39) (v := ?_) (a' := ?_) #[true, true, true, true, true, false, false, false, true, false, false, false, false, true, false, false, false, false, true, false, false, false, false, false, false, false] rfl rfl (any_of HT_.out (by kernel_rfl)) (fun _ _ _ h => h) (Or.inl ⟨by rfl, ?_⟩) ?_ ?_
                                  rotate_left
                                  · intro w'
                                    go_simp
                                    with_reducible rfl
                                  rotate_left
                                  · simp only [Act.put, List.setIfInBounds_toArray, List.set_cons_zero, List.set_cons_succ, i64_w, i32_w]
                                    rfl
                                  refine take_ (i := 5) (N := some 41) (v := ?_) (a' := ?_) #[true, true, true, true, true, true, false, false, true, false, false, false, false, true, false, false, false, false, true, false, false, false, false, false, false, false] rfl rfl (take_ofW HT_.out HW_.out (by kernel_rfl)) (fun _ _ _ h => h) (Or.inl ⟨by rfl, ?_⟩) hHeld ?_ ?_
                                  rotate_left
                                  · intro w' _
                                    go_simp
                                    with_reducible rfl
                                  rotate_left
                                  · simp only [Act.put, List.setIfInBounds_toArray, List.set_cons_zero, List.set_cons_succ, i64_w, i32_w]
                                    rfl
                                  refine pure_ (i := 6) (N := some 42) (v := ?_) (a' := ?_) #[true, true, true, true, true, true, true, false, true, false, false, false, false, true, false, false, false, false, true, false, false, false, false, false, false, false] rfl rfl (any_of HT_.out (by kernel_rfl)) (fun _ _ _ h => h) (Or.inl ⟨by rfl, ?_⟩) ?_ ?_
                                  rotate_left
                                  · intro w'
                                    go_simp
                                    with_reducible rfl
                                  rotate_left
                                  · simp only [Act.put, List.setIfInBounds_toArray, List.set_cons_zero, List.set_cons_succ, i64_w, i32_w]
                                    rfl
                                  refine pure_ (i := 7) (N := some 43) (v := ?_) (a' := ?_) #[true, true, true, true, true, true, true, true, true, false, false, false, false, true, false, false, false, false, true, false, false, false, false, false, false, false] rfl rfl (any_of HT_.out (by kernel_rfl)) (fun _ _ _ h => h) (Or.inl ⟨by rfl, ?_⟩) ?_ ?_
                                  rotate_left
                                  · intro w'
                                    go_simp
                                    with_reducible rfl
                                  rotate_left
                                  · simp only [Act.put, List.setIfInBounds_toArray, List.set_cons_zero, List.set_cons_succ, i64_w, i32_w]
                                    rfl
                                  refine take_ (i := 9) (N := some 45) (v := ?_) (a' := ?_) #[true, true, true, true, true, true, true, true, true, true, false, false, false, true, false, false, false, false, true, false, false, false, false, false, false, false] rfl rfl (take_ofW HT_.out HW_.out (by kernel_rfl)) (fun _ _ _ h => h) (Or.inl ⟨by rfl, ?_⟩) hHeld ?_ ?_
                                  rotate_left
                                  · intro w' _
                                    go_simp
                                    with_reducible rfl
                                  rotate_left
                                  · simp only [Act.put, List.setIfInBounds_toArray, List.set_cons_zero, List.set_cons_succ, i64_w, i32_w]
                                    rfl
                                  refine pure_ (i := 10) (N := some 46) (v := ?_) (a' := ?_) #[true, true, true, true, true, true, true, true, true, true, true, false, false, true, false, false, false, false, true, false, false, false, false, false, false, false] rfl rfl (any_of HT_.out (by kernel_rfl)) (fun _ _ _ h => h) (Or.inl ⟨by rfl, ?_⟩) ?_ ?_
                                  rotate_left
                                  · intro w'
                                    go_simp
                                    with_reducible rfl
                                  rotate_left
                                  · simp only [Act.put, List.setIfInBounds_toArray, List.set_cons_zero, List.set_cons_succ, i64_w, i32_w]
                                    rfl
                                  refine pure_ (i := 11) (N := some 47) (v := ?_) (a' := ?_) #[true, true, true, true, true, true, true, true, true, true, true, true, false, true, false, false, false, false, true, false, false, false, false, false, false, false] rfl rfl (any_of HT_.out (by kernel_rfl)) (fun _ _ _ h => h) (Or.inl ⟨by rfl, ?_⟩) ?_ ?_
                                  rotate_left
                                  · intro w'
                                    go_simp
                                    with_reducible rfl
                                  rotate_left
                                  · simp only [Act.put, List.setIfInBounds_toArray, List.set_cons_zero, List.set_cons_succ, i64_w, i32_w]
                                    rfl
                                  refine pure_ (i := 12) (N := some 48) (v := ?_) (a' := ?_) #[true, true, true, true, true, true, true, true, true, true, true, true, true, true, false, false, false, false, true, false, false, false, false, false, false, false] rfl rfl (any_of HT_.out (by kernel_rfl)) (fun _ _ _ h => h) (Or.inl ⟨by rfl, ?_⟩) ?_ ?_
                                  rotate_left
                                  · intro w'
                                    go_simp
                                    with_reducible rfl
                                  rotate_left
                                  · simp only [Act.put, List.setIfInBounds_toArray, List.set_cons_zero, List.set_cons_succ, i64_w, i32_w]
                                    rfl
                                  refine take_ (i := 14) (N := some 50) (v := ?_) (a' := ?_) #[true, true, true, true, true, true, true, true, true, true, true, true, true, true, true, false, false, false, true, false, false, false, false, false, false, false] rfl rfl (take_ofW HT_.out HW_.out (by kernel_rfl)) (fun _ _ _ h => h) (Or.inl ⟨by rfl, ?_⟩) hHeld ?_ ?_
                                  rotate_left
                                  · intro w' _
                                    go_simp
                                    with_reducible rfl
                                  rotate_left
                                  · simp only [Act.put, List.setIfInBounds_toArray, List.set_cons_zero, List.set_cons_succ, i64_w, i32_w]
                                    rfl
                                  refine pure_ (i := 15) (N := some 51) (v := ?_) (a' := ?_) #[true, true, true, true, true, true, true, true, true, true, true, true, true, true, true, true, false, false, true, false, false, false, false, false, false, false] rfl rfl (any_of HT_.out (by kernel_rfl)) (fun _ _ _ h => h) (Or.inl ⟨by rfl, ?_⟩) ?_ ?_
                                  rotate_left
                                  · intro w'
                                    go_simp
                                    with_reducible rfl
                                  rotate_left
                                  · simp only [Act.put, List.setIfInBounds_toArray, List.set_cons_zero, List.set_cons_succ, i64_w, i32_w]
                                    rfl
                                  refine pure_ (i := 16) (N := some 52) (v := ?_) (a' := ?_) #[true, true, true, true, true, true, true, true, true, true, true, true, true, true, true, true, true, false, true, false, false, false, false, false, false, false] rfl rfl (any_of HT_.out (by kernel_rfl)) (fun _ _ _ h => h) (Or.inl ⟨by rfl, ?_⟩) ?_ ?_
                                  rotate_left
                                  · intro w'
                                    go_simp
                                    with_reducible rfl
                                  rotate_left
                                  · simp only [Act.put, List.setIfInBounds_toArray, List.set_cons_zero, List.set_cons_succ, i64_w, i32_w]
                                    rfl
                                  refine pure_ (i := 17) (N := some 53) (v := ?_) (a' := ?_) #[true, true, true, true, true, true, true, true, true, true, true, true, true, true, true, true, true, true, true, false, false, false, false, false, false, false] rfl rfl (any_of HT_.out (by kernel_rfl)) (fun _ _ _ h => h) (Or.inl ⟨by rfl, ?_⟩) ?_ ?_
                                  rotate_left
                                  · intro w'
                                    go_simp
                                    with_reducible rfl
                                  rotate_left
                                  · simp only [Act.put, List.setIfInBounds_toArray, List.set_cons_zero, List.set_cons_succ, i64_w, i32_w]
                                    rfl
                                  refine take_ (i := 19) (N := some 55) (v := ?_) (a' := ?_) #[true, true, true, true, true, true, true, true, true, true, true, true, true, true, true, true, true, true, true, true, false, false, false, false, false, false] rfl rfl (take_ofW HT_.out HW_.out (by kernel_rfl)) (fun _ _ _ h => h) (Or.inl ⟨by rfl, ?_⟩) hHeld ?_ ?_
                                  rotate_left
                                  · intro w' _
                                    go_simp
                                    with_reducible rfl
                                  rotate_left
                                  · simp only [Act.put, List.setIfInBounds_toArray, List.set_cons_zero, List.set_cons_succ, i64_w, i32_w]
                                    rfl
                                  refine pure_ (i := 20) (N := some 56) (v := ?_) (a' := ?_) #[true, true, true, true, true, true, true, true, true, true, true, true, true, true, true, true, true, true, true, true, true, false, false, false, false, false] rfl rfl (any_of HT_.out (by kernel_rfl)) (fun _ _ _ h => h) (Or.inl ⟨by rfl, ?_⟩) ?_ ?_
                                  rotate_left
                                  · intro w'
                                    go_simp
                                    with_reducible rfl
                                  rotate_left
                                  · simp only [Act.put, List.setIfInBounds_toArray, List.set_cons_zero, List.set_cons_succ, i64_w, i32_w]
                                    rfl
                                  refine pure_ (i := 21) (N := some 57) (v := ?_) (a' := ?_) #[true, true, true, true, true, true, true, true, true, true, true, true, true, true, true, true, true, true, true, true, true, true, false, false, false, false] rfl rfl (any_of HT_.out (by kernel_rfl)) (fun _ _ _ h => h) (Or.inl ⟨by rfl, ?_⟩) ?_ ?_
                                  rotate_left
                                  · intro w'
                                    go_simp
                                    with_reducible rfl
                                  rotate_left
                                  · simp only [Act.put, List.setIfInBounds_toArray, List.set_cons_zero, List.set_cons_succ, i64_w, i32_w]
                                    rfl
                                  refine pure_ (i := 22) (N := some 58) (v := ?_) (a' := ?_) #[true, true, true, true, true, true, true, true, true, true, true, true, true, true, true, true, true, true, true, true, true, true, true, false, false, false] rfl rfl (any_of HT_.out (by kernel_rfl)) (fun _ _ _ h => h) (Or.inl ⟨by rfl, ?_⟩) ?_ ?_
                                  rotate_left
                                  · intro w'
                                    go_simp
                                    with_reducible rfl
                                  rotate_left
                                  · simp only [Act.put, List.setIfInBounds_toArray, List.set_cons_zero, List.set_cons_succ, i64_w, i32_w]
                                    rfl
                                  refine one_ (i := 23) (N := some 59) #[true, true, true, true, true, true, true, true, true, true, true, true, true, true, true, true, true, true, true, true, true, true, true, true, false, false] rfl rfl (one_of HT_.out (by kernel_rfl)) (by decide) (fun K hK => ?_)
                                  refine value_ (w1 := ?_) (v := ?_) (by rfl) rfl ?_ ?_
                                  rotate_left 2
                                  · go_simp
                                    constructor
                                    · rfl
                                    · rfl
                                  refine hK.out _ _ trivial (fun hHeld => ?_)
                                  clear hK K
                                  refine norm_ (a' := ?_) ?_ ?_
                                  rotate_left
                                  · show Act.put _ (some 59) _ = _
                                    simp only [Act.put, List.setIfInBounds_toArray, List.set_cons_zero, List.set_cons_succ, i64_w, i32_w]
                                    rfl
                                  refine one_ (i := 24) (N := some 60) #[true, true, true, true, true, true, true, true, true, true, true, true, true, true, true, true, true, true, true, true, true, true, true, true, true, false] rfl rfl (one_of HT_.out (by kernel_rfl)) (by decide) (fun K hK => ?_)
                                  refine Kd.R_append_step k63 (w0 := w) w.heap.size (by rfl) (.tmp 36) (.tmp 59) 22 63 (.agg #[(.int .i64 0), (.int .u64 0)]) 16 rfl Try.underlying22 info63 rfl (by decide) (by omega) u5 x5_2 (⟨wrap64 (bt (a0.extract ((ji10) : Int).toNat ((wrap64 (6 + (wrap64 (5 * x6_2)))) : Int).toNat) 0), IntKind.u64.wrap ((IntKind.u64.wrap ((IntKind.u64.wrap ((IntKind.u64.wrap ((IntKind.u64.wrap (bt (a0.extract ((ji10) : Int).toNat ((wrap64 (6 + (wrap64 (5 * x6_2)))) : Int).toNat) 1)) * 16777216)) + (IntKind.u64.wrap ((IntKind.u64.wrap (bt (a0.extract ((ji10) : Int).toNat ((wrap64 (6 + (wrap64 (5 * x6_2)))) : Int).toNat) 2)) * 65536)))) + (IntKind.u64.wrap ((IntKind.u64.wrap (bt (a0.extract ((ji10) : Int).toNat ((wrap64 (6 + (wrap64 (5 * x6_2)))) : Int).toNat) 3)) * 256)))) + (IntKind.u64.wrap (bt (a0.extract ((ji10) : Int).toNat ((wrap64 (6 + (wrap64 (5 * x6_2)))) : Int).toNat) 4)))⟩ : S63) [.int .i64 (wrap64 (bt (a0.extract ((ji10) : Int).toNat ((wrap64 (6 + (wrap64 (5 * x6_2)))) : Int).toNat) 0)), .int .u64 (IntKind.u64.wrap ((IntKind.u64.wrap ((IntKind.u64.wrap ((IntKind.u64.wrap ((IntKind.u64.wrap (bt (a0.extract ((ji10) : Int).toNat ((wrap64 (6 + (wrap64 (5 * x6_2)))) : Int).toNat) 1)) * 16777216)) + (IntKind.u64.wrap ((IntKind.u64.wrap (bt (a0.extract ((ji10) : Int).toNat ((wrap64 (6 + (wrap64 (5 * x6_2)))) : Int).toNat) 2)) * 65536)))) + (IntKind.u64.wrap ((IntKind.u64.wrap (bt (a0.extract ((ji10) : Int).toNat ((wrap64 (6 + (wrap64 (5 * x6_2)))) : Int).toNat) 3)) * 256)))) + (IntKind.u64.wrap (bt (a0.extract ((ji10) : Int).toNat ((wrap64 (6 + (wrap64 (5 * x6_2)))) : Int).toNat) 4))))] (fun _ => True) (fun _ => False) rfl rfl ?aP (fun _ hk => hk.elim) ?aF ?aO ?aB ?aS ?aL ?_
                                  (case aP => exact k63_mkM _ _ _ (⟨wrap64 (bt (a0.extract ((ji10) : Int).toNat ((wrap64 (6 + (wrap64 (5 * x6_2)))) : Int).toNat) 0), IntKind.u64.wrap ((IntKind.u64.wrap ((IntKind.u64.wrap ((IntKind.u64.wrap ((IntKind.u64.wrap (bt (a0.extract ((ji10) : Int).toNat ((wrap64 (6 + (wrap64 (5 * x6_2)))) : Int).toNat) 1)) * 16777216)) + (IntKind.u64.wrap ((IntKind.u64.wrap (bt (a0.extract ((ji10) : Int).toNat ((wrap64 (6 + (wrap64 (5 * x6_2)))) : Int).toNat) 2)) * 65536)))) + (IntKind.u64.wrap ((IntKind.u64.wrap (bt (a0.extract ((ji10) : Int).toNat ((wrap64 (6 + (wrap64 (5 * x6_2)))) : Int).toNat) 3)) * 256)))) + (IntKind.u64.wrap (bt (a0.extract ((ji10) : Int).toNat ((wrap64 (6 + (wrap64 (5 * x6_2)))) : Int).toNat) 4)))⟩ : S63))
                                  (case aB => exact (by repeat (first | (with_reducible first | exact HB.out | apply below_alloc | apply pw_below_drewN | apply below_drew1) | exact HB.out)))
                                  (case aF => exact (fun _ _ => trivial))
                                  (case aO => exact (by (with_reducible repeat (first | apply Kd.R_alloc | apply Kd.R_drewN | apply Kd.R_drew)); exact HO_5.out))
                                  (case aS => exact (below_size (by repeat (first | (with_reducible first | exact HB.out | apply below_alloc | apply pw_below_drewN | apply below_drew1) | exact HB.out))))
                                  (case aL => have := LMc24.out; omega)
                                  intro v274 w26 ho hb hg hat
                                  rw [← Ny273.out] at ho
                                  have n0_ := Aside0.mk (hb)
                                  have n1_ := Aside0.mk (ho)
                                  clear HB
                                  clear HO_5
                                  have HB := n0_
                                  have HO275 := n1_
                                  clear n0_ n1_
                                  clear ho hb hg hat
                                  refine hK.out _ _ trivial (fun hHeld => ?_)
                                  clear hK K
                                  refine norm_ (a' := ?_) ?_ ?_
                                  rotate_left
                                  · show Act.put _ (some 60) _ = _
                                    simp only [Act.put, List.setIfInBounds_toArray, List.set_cons_zero, List.set_cons_succ, i64_w, i32_w]
                                    rfl
                                  refine pure_ (i := 25) (N := some 5) (v := ?_) (a' := ?_) #[true, true, true, true, true, true, true, true, true, true, true, true, true, true, true, true, true, true, true, true, true, true, true, true, true, true] rfl rfl (any_of HT_.out (by kernel_rfl)) (fun _ _ _ h => h) (Or.inl ⟨by rfl, ?_⟩) ?_ ?_
                                  rotate_left
                                  · intro w'
                                    go_simp
                                    with_reducible rfl
                                  rotate_left
                                  · simp only [Act.put, List.setIfInBounds_toArray, List.set_cons_zero, List.set_cons_succ, i64_w, i32_w]
                                    rfl
                                  refine done_ (done_of HT_.out (by kernel_rfl)) ?_
                                  try go_wp2
                                  go_roundg k2
                                  case measure => have := HJ1.out; have := HK2.out; omega
                                  case rel => exact ⟨(y273), (wrap64 (x6_2 + 1)), (by first | rfl | (simp; done) | (simp [*]; done)), H', ⟨by have := HJ1.out; have := HK2.out; omega⟩, ⟨by (with_reducible repeat (first | apply Kd.R_alloc | apply Kd.R_drewN | apply Kd.R_drew)); exact HO275.out⟩, ⟨by repeat (first | (with_reducible first | exact HB.out | apply below_alloc | apply pw_below_drewN | apply below_drew1) | exact HB.out)⟩⟩
                                · rw [if_neg c24] at H
                                  exact absurd H (by simp)
                              · rw [if_neg c22] at H
                                exact absurd H (by simp)
                            · rw [if_neg c20] at H
                              exact absurd H (by simp)
                          · rw [if_neg c18] at H
                            exact absurd H (by simp)
                        · rw [if_neg c16] at H
                          exact absurd H (by simp)
                      · rw [if_neg c14] at H
                        exact absurd H (by simp)
                    · rw [if_neg c13] at H
                      exact absurd H (by simp)
                  · rw [if_neg c12] at H
                    exact absurd H (by simp)
                · rw [if_neg c11] at H
                  exact absurd H (by simp)
              · rw [if_neg c9] at H
                have c9b0 : decide (x6_2 < (wrap64 (bt a0 0))) = false := decide_eq_false c9
                clear c9
                replace H := Option.bind_eq_some_iff.mp H
                obtain ⟨t276, A270, H⟩ := H
                replace H : (if t276 = true then (if 0 ≤ (wrap64 (1 + (wrap64 (5 * (wrap64 (bt a0 0)))))) then (if (wrap64 (1 + (wrap64 (5 * (wrap64 (bt a0 0)))))) ≤ (a0.size : Int) then (some (x5_2, a0.extract ((wrap64 (1 + (wrap64 (5 * (wrap64 (bt a0 0)))))) : Int).toNat a0.size, 0)) else (none)) else (none)) else (some (([] : List (S63)), (⟨#[]⟩ : ByteArray), 3))) = some (r1, r2, r3) := H
                have A27 := Aside0.mk A270
                clear A270
                by_cases c28 : t276 = true
                · subst c28
                  have H1 : (if 0 ≤ (wrap64 (1 + (wrap64 (5 * (wrap64 (bt a0 0)))))) then (if (wrap64 (1 + (wrap64 (5 * (wrap64 (bt a0 0)))))) ≤ (a0.size : Int) then (some (x5_2, a0.extract ((wrap64 (1 + (wrap64 (5 * (wrap64 (bt a0 0)))))) : Int).toNat a0.size, 0)) else (none)) else (none)) = some (r1, r2, r3) := by rw [if_pos rfl] at H; exact H
                  clear H
                  have H := H1
                  clear H1
                  obtain ⟨ji30, hji30⟩ : ∃ j_ : Int, (wrap64 (1 + (wrap64 (5 * (wrap64 (bt a0 0)))))) = j_ := ⟨_, rfl⟩
                  replace H : (if 0 ≤ (ji30) then (if (ji30) ≤ (a0.size : Int) then (some (x5_2, a0.extract ((ji30) : Int).toNat a0.size, 0)) else (none)) else (none)) = some (r1, r2, r3) := by first | (rw [hji30] at H; exact H) | (simp only [hji30] at H ⊢; exact H)
                  (try rw [hji30] at A27)
                  have hji30w : (IntKind.i64.wrap (1 + (wrap64 (5 * (wrap64 (bt a0 0)))))) = ji30 := (i64_w _).trans hji30
                  by_cases c31 : 0 ≤ (ji30)
                  · rw [if_pos c31] at H
                    have c31b0 := eq_true c31
                    have c31b1 : decide (0 ≤ (ji30)) = true := decide_eq_true c31
                    clear c31
                    by_cases c32 : (ji30) ≤ (a0.size : Int)
                    · rw [if_pos c32] at H
                      have c32b0 := eq_true c32
                      have c32b1 : decide ((ji30) ≤ (a0.size : Int)) = true := decide_eq_true c32
                      clear c32
                      simp only [Option.some.injEq, Prod.mk.injEq] at H
                      obtain ⟨rfl, rfl, rfl⟩ := H
                      have p8 : 0 ≤ (0 : Int) := (by omega)
                      have q8 : 0 < a0.size := (by have : (0 : Int) < (a0.size : Int) := of_decide_eq_true (by first | (with_reducible assumption) | assumption); omega)
                      have hx8 : ∀ h : 0 < a0.size, ((a0[0]'h).toNat : Int) = bt a0 0 := bt_at a0 0
                      clear p8
                      have qi8 : (0 < (a0.size : Int)) = True := eq_true (of_decide_eq_true (by first | (with_reducible assumption) | assumption))
                      replace q8 := eq_true q8
                      obtain ⟨Ao33, co33, eo33⟩ := Kd.R_slice HO_5.out
                      subst eo33
                      try go_wp2_with (first | ((with_reducible refine gate_callee (f := 13) rfl ?_); refine goesL_ (some 62) rfl rfl Try.func13 (by kernel_rfl) rfl #[.slice Ao33 x5_2.length co33] rfl (by (try simp only [List.map_toArray, List.map_cons, List.map_nil]); first | done | rfl | (simp only [List.length_drop, List.length_take]; rfl)) ?_; (with_reducible refine (counterfoilref10_Right.calls k2 _ _ x5_2 true _ ?side1 ?side2 A27.out).mono ?_); (case side1 => repeat (first | exact (Kd.R_reads' HO_5.out).2.2 | (with_reducible refine Kd.C_alloc ?_ _) | (with_reducible refine Kd.C_drewN ?_ _) | (with_reducible refine Kd.C_drew ?_))); (case side2 => exact (Kd.R_reads' HO_5.out).2.1); rintro e w34 ⟨rfl, hb⟩; refine ⟨_, rfl, ?_⟩; have n0_ := Aside0.mk (Kd.R_below (by (with_reducible repeat (first | apply Kd.R_alloc | apply Kd.R_drewN | apply Kd.R_drew)); exact HO_5.out) hb); have n1_ := Aside0.mk (below_step (by repeat (first | (with_reducible first | exact HB.out | apply below_alloc | apply pw_below_drewN | apply below_drew1) | exact HB.out)) hb); clear HO_5; clear HB; have HO_5 := n0_; have HB := n1_; clear n0_ n1_; (try clear hb); (try clear hb2); (try clear hk); (try clear hi)))
                      have n0_ := Aside0.mk (Kd.R_drew HO_5.out)
                      have n1_ := Aside0.mk (below_drew1 HB.out)
                      clear HO_5
                      clear HB
                      have HO_5 := n0_
                      have HB := n1_
                      clear n0_ n1_
                      have p29 : 0 ≤ (0 : Int) := (by omega)
                      have q29 : 0 < a0.size := (by have : (0 : Int) < (a0.size : Int) := of_decide_eq_true (by first | (with_reducible assumption) | assumption); omega)
                      have hx29 : ∀ h : 0 < a0.size, ((a0[0]'h).toNat : Int) = bt a0 0 := bt_at a0 0
                      clear p29
                      have qi29 : (0 < (a0.size : Int)) = True := eq_true (of_decide_eq_true (by first | (with_reducible assumption) | assumption))
                      replace q29 := eq_true q29
                      refine start_ (n := 11) (S := fun w' => True) (ds := []) #[false, false, false, false, false, false, false, false, false, false, false] (by kernel_rfl) rfl rfl trivial (fun hHeld => ?_); refine with_tabW counterfoilref10_Parse.tab11 counterfoilref10_Parse.bits11 (fun HT_ HW_ => ?_)
                      generalize w34.drew = w35 at HO_5 HB hHeld ⊢
                      refine pure_ (i := 0) (N := some 64) (v := ?_) (a' := ?_) #[true, false, false, false, false, false, false, false, false, false, false] rfl rfl (any_of HT_.out (by kernel_rfl)) (fun _ _ _ h => h) (Or.inl ⟨by rfl, ?_⟩) ?_ ?_
                      rotate_left
                      · intro w'
                        go_simp
                        with_reducible rfl
                      rotate_left
                      · simp only [Act.put, List.setIfInBounds_toArray, List.set_cons_zero, List.set_cons_succ, i64_w, i32_w]
                        rfl
                      refine pure_ (i := 1) (N := some 65) (v := ?_) (a' := ?_) #[true, true, false, false, false, false, false, false, false, false, false] rfl rfl (any_of HT_.out (by kernel_rfl)) (fun _ _ _ h => h) (Or.inl ⟨by rfl, ?_⟩) ?_ ?_
                      rotate_left
                      · intro w'
                        go_simp
                        with_reducible rfl
                      rotate_left
                      · simp only [Act.put, List.setIfInBounds_toArray, List.set_cons_zero, List.set_cons_succ, i64_w, i32_w]
                        rfl
                      refine pure_ (i := 2) (N := some 66) (v := ?_) (a' := ?_) #[true, true, true, false, false, false, false, false, false, false, false] rfl rfl (any_of HT_.out (by kernel_rfl)) (fun _ _ _ h => h) (Or.inl ⟨by rfl, ?_⟩) ?_ ?_
                      rotate_left
                      · intro w'
                        go_simp
                        with_reducible rfl
                      rotate_left
                      · simp only [Act.put, List.setIfInBounds_toArray, List.set_cons_zero, List.set_cons_succ, i64_w, i32_w]
                        rfl
                      refine pure_ (i := 8) (N := some 2) (v := ?_) (a' := ?_) #[true, true, true, false, false, false, false, false, true, false, false] rfl rfl (any_of HT_.out (by kernel_rfl)) (fun _ _ _ h => h) (Or.inl ⟨by rfl, ?_⟩) ?_ ?_
                      rotate_left
                      · intro w'
                        go_simp
                        with_reducible rfl
                      rotate_left
                      · simp only [Act.put, List.setIfInBounds_toArray, List.set_cons_zero, List.set_cons_succ, i64_w, i32_w]
                        rfl
                      refine take_ (i := 3) (N := some 67) (v := ?_) (a' := ?_) #[true, true, true, true, false, false, false, false, true, false, false] rfl rfl (take_ofW HT_.out HW_.out (by kernel_rfl)) (fun _ _ _ h => h) (Or.inl ⟨by rfl, ?_⟩) hHeld ?_ ?_
                      rotate_left
                      · intro w' _
                        go_simp
                        with_reducible rfl
                      rotate_left
                      · simp only [Act.put, List.setIfInBounds_toArray, List.set_cons_zero, List.set_cons_succ, i64_w, i32_w]
                        rfl
                      refine pure_ (i := 4) (N := some 68) (v := ?_) (a' := ?_) #[true, true, true, true, true, false, false, false, true, false, false] rfl rfl (any_of HT_.out (by kernel_rfl)) (fun _ _ _ h => h) (Or.inl ⟨by rfl, ?_⟩) ?_ ?_
                      rotate_left
                      · intro w'
                        go_simp
                        with_reducible rfl
                      rotate_left
                      · simp only [Act.put, List.setIfInBounds_toArray, List.set_cons_zero, List.set_cons_succ, i64_w, i32_w]
                        rfl
                      refine pure_ (i := 5) (N := some 69) (v := ?_) (a' := ?_) #[true, true, true, true, true, true, false, false, true, false, false] rfl rfl (any_of HT_.out (by kernel_rfl)) (fun _ _ _ h => h) (Or.inl ⟨by rfl, ?_⟩) ?_ ?_
                      rotate_left
                      · intro w'
                        go_simp
                        with_reducible rfl
                      rotate_left
                      · simp only [Act.put, List.setIfInBounds_toArray, List.set_cons_zero, List.set_cons_succ, i64_w, i32_w]
                        rfl
                      refine pure_ (i := 6) (N := some 70) (v := ?_) (a' := ?_) #[true, true, true, true, true, true, true, false, true, false, false] rfl rfl (any_of HT_.out (by kernel_rfl)) (fun _ _ _ h => h) (Or.inl ⟨by rfl, ?_⟩) ?_ ?_
                      rotate_left
                      · intro w'
                        go_simp
                        with_reducible rfl
                      rotate_left
                      · simp only [Act.put, List.setIfInBounds_toArray, List.set_cons_zero, List.set_cons_succ, i64_w, i32_w]
                        rfl
                      refine pure_ (i := 7) (N := some 71) (v := ?_) (a' := ?_) #[true, true, true, true, true, true, true, true, true, false, false] rfl rfl (any_of HT_.out (by kernel_rfl)) (fun _ _ _ h => h) (Or.inl ⟨by rfl, ?_⟩) ?_ ?_
                      rotate_left
                      · intro w'
                        go_simp
                        with_reducible rfl
                      rotate_left
                      · simp only [Act.put, List.setIfInBounds_toArray, List.set_cons_zero, List.set_cons_succ, i64_w, i32_w]
                        rfl
                      refine pure_ (i := 9) (N := some 3) (v := ?_) (a' := ?_) #[true, true, true, true, true, true, true, true, true, true, false] rfl rfl (any_of HT_.out (by kernel_rfl)) (fun _ _ _ h => h) (Or.inl ⟨by rfl, ?_⟩) ?_ ?_
                      rotate_left
                      · intro w'
                        go_simp
                        with_reducible rfl
                      rotate_left
                      · simp only [Act.put, List.setIfInBounds_toArray, List.set_cons_zero, List.set_cons_succ, i64_w, i32_w]
                        rfl
                      refine pure_ (i := 10) (N := some 4) (v := ?_) (a' := ?_) #[true, true, true, true, true, true, true, true, true, true, true] rfl rfl (any_of HT_.out (by kernel_rfl)) (fun _ _ _ h => h) (Or.inl ⟨by rfl, ?_⟩) ?_ ?_
                      rotate_left
                      · intro w'
                        go_simp
                        with_reducible rfl
                      rotate_left
                      · simp only [Act.put, List.setIfInBounds_toArray, List.set_cons_zero, List.set_cons_succ, i64_w, i32_w]
                        rfl
                      refine done_ (done_of HT_.out (by kernel_rfl)) ?_
                      try go_wp2
                      go_ret3
                      exact ⟨_, by first | rfl | (simp [errW_none, errW_some] <;> rfl) | (simp only [← hji30]; first | rfl | (simp [errW_none, errW_some] <;> rfl)) | (simp [*, errW_none, errW_some] <;> rfl), by (with_reducible repeat (first | apply Kd.R_alloc | apply Kd.R_drewN | apply Kd.R_drew)); exact HO_5.out, by repeat (first | (with_reducible first | exact HB.out | apply below_alloc | apply pw_below_drewN | apply below_drew1) | exact HB.out)⟩
                    · rw [if_neg c32] at H
                      exact absurd H (by simp)
                  · rw [if_neg c31] at H
                    exact absurd H (by simp)
                · replace c28 := Bool.eq_false_iff.mpr c28
                  subst c28
                  have H1 : (some (([] : List (S63)), (⟨#[]⟩ : ByteArray), 3)) = some (r1, r2, r3) := by rw [if_neg (show ¬ (false = true) by decide)] at H; exact H
                  clear H
                  have H := H1
                  clear H1
                  simp only [Option.some.injEq, Prod.mk.injEq] at H
                  obtain ⟨rfl, rfl, rfl⟩ := H
                  have p8 : 0 ≤ (0 : Int) := (by omega)
                  have q8 : 0 < a0.size := (by have : (0 : Int) < (a0.size : Int) := of_decide_eq_true (by first | (with_reducible assumption) | assumption); omega)
                  have hx8 : ∀ h : 0 < a0.size, ((a0[0]'h).toNat : Int) = bt a0 0 := bt_at a0 0
                  clear p8
                  have qi8 : (0 < (a0.size : Int)) = True := eq_true (of_decide_eq_true (by first | (with_reducible assumption) | assumption))
                  replace q8 := eq_true q8
                  obtain ⟨Ao36, co36, eo36⟩ := Kd.R_slice HO_5.out
                  subst eo36
                  go_wp2_with (first | ((with_reducible refine gate_callee (f := 13) rfl ?_); refine goesL_ (some 62) rfl rfl Try.func13 (by kernel_rfl) rfl #[.slice Ao36 x5_2.length co36] rfl (by (try simp only [List.map_toArray, List.map_cons, List.map_nil]); first | done | rfl | (simp only [List.length_drop, List.length_take]; rfl)) ?_; (with_reducible refine (counterfoilref10_Right.calls k2 _ _ x5_2 false _ ?side1 ?side2 A27.out).mono ?_); (case side1 => repeat (first | exact (Kd.R_reads' HO_5.out).2.2 | (with_reducible refine Kd.C_alloc ?_ _) | (with_reducible refine Kd.C_drewN ?_ _) | (with_reducible refine Kd.C_drew ?_))); (case side2 => exact (Kd.R_reads' HO_5.out).2.1); rintro e w37 ⟨rfl, hb⟩; refine ⟨_, rfl, ?_⟩; have n0_ := Aside0.mk (Kd.R_below (by (with_reducible repeat (first | apply Kd.R_alloc | apply Kd.R_drewN | apply Kd.R_drew)); exact HO_5.out) hb); have n1_ := Aside0.mk (below_step (by repeat (first | (with_reducible first | exact HB.out | apply below_alloc | apply pw_below_drewN | apply below_drew1) | exact HB.out)) hb); clear HO_5; clear HB; have HO_5 := n0_; have HB := n1_; clear n0_ n1_; (try clear hb); (try clear hb2); (try clear hk); (try clear hi)))
                  go_ret3
                  exact ⟨_, by first | rfl | (simp [errW_none, errW_some] <;> rfl) | (simp [*, errW_none, errW_some] <;> rfl), by first | exact Kd.R_nil _ _ _ _ _ | exact Kd.N_nil _ _ _ _ _ | exact Kd.V_nil _ _ _ _ _ | exact Kd.Q_nil _ _ _ _ _ | exact Kd.S_nil _ _ _ _ _, by repeat (first | (with_reducible first | exact HB.out | apply below_alloc | apply pw_below_drewN | apply below_drew1) | exact HB.out)⟩
            · rw [if_neg c7] at H
              exact absurd H (by simp)

/-! ### counterfoillaw10_DirtyParses: function 5 -/
def counterfoillaw10_DirtyParses.f (k : Nat) (a0 : ByteArray) : Option (Bool) := (dirty_Parse.f k a0).bind fun bt277 => ((counterfoilref10_Parse.f k a0).bind fun bt282 => ((counterfoilref10_Equal.f k bt277.1 bt282.1).bind fun t287 => (if t287 = true then (if bt277.2.1.toList = bt282.2.1.toList then (if bt277.2.2 = bt282.2.2 then ((counterfoillaw10_awake.f).bind fun t288 => (some t288)) else (some false)) else (some false)) else (some false))))
theorem counterfoillaw10_DirtyParses.mono : ∀ a0 k, LeO (counterfoillaw10_DirtyParses.f k a0) (counterfoillaw10_DirtyParses.f (k + 1) a0) := by
  intro a0 k
  unfold counterfoillaw10_DirtyParses.f
  repeat' first
      | (with_reducible exact counterfoilref10_Equal.mono _ _ _)
      | (with_reducible exact counterfoilref10_Parse.mono _ _)
      | (with_reducible exact dirty_Parse.mono _ _)
      | (with_reducible exact LeO.refl _)
      | (with_reducible exact LeO.none _)
      | (with_reducible refine LeO.ite ?_ ?_)
      | (with_reducible refine LeO.bind ?_ (fun _ => ?_))
      | exact counterfoilref10_Equal.mono _ _ _
      | exact counterfoilref10_Parse.mono _ _
      | exact dirty_Parse.mono _ _
      | exact LeO.none _
      | refine LeO.ite ?_ ?_
      | refine LeO.bind ?_ (fun _ => ?_)
set_option maxHeartbeats 8000000 in
set_option maxRecDepth 100000 in
theorem counterfoillaw10_DirtyParses.calls (k : Nat) (a0 : ByteArray) (r : Bool) (w : World) (hr_ : r = true) (h : counterfoillaw10_DirtyParses.f k a0 = some r) :
    Calls Try.prog 5 #[.string a0] w fun e w' => e = .returned (.bool r) ∧ Below w.heap.size w w' := by
  have HB := Aside0.mk (Below.refl w.heap.size w)
  have H : ((dirty_Parse.f k a0).bind fun bt277 => ((counterfoilref10_Parse.f k a0).bind fun bt282 => ((counterfoilref10_Equal.f k bt277.1 bt282.1).bind fun t287 => (if t287 = true then (if bt277.2.1.toList = bt282.2.1.toList then (if bt277.2.2 = bt282.2.2 then ((counterfoillaw10_awake.f).bind fun t288 => (some t288)) else (some false)) else (some false)) else (some false))))) = some r := h
  clear h
  replace H := Option.bind_eq_some_iff.mp H
  obtain ⟨⟨t277, t278, t279⟩, A20, H⟩ := H
  replace H : ((counterfoilref10_Parse.f k a0).bind fun bt282 => ((counterfoilref10_Equal.f k t277 bt282.1).bind fun t287 => (if t287 = true then (if t278.toList = bt282.2.1.toList then (if t279 = bt282.2.2 then ((counterfoillaw10_awake.f).bind fun t288 => (some t288)) else (some false)) else (some false)) else (some false)))) = some r := H
  have A2 := Aside0.mk A20
  clear A20
  replace H := Option.bind_eq_some_iff.mp H
  obtain ⟨⟨t282, t283, t284⟩, A30, H⟩ := H
  replace H : ((counterfoilref10_Equal.f k t277 t282).bind fun t287 => (if t287 = true then (if t278.toList = t283.toList then (if t279 = t284 then ((counterfoillaw10_awake.f).bind fun t288 => (some t288)) else (some false)) else (some false)) else (some false))) = some r := H
  have A3 := Aside0.mk A30
  clear A30
  replace H := Option.bind_eq_some_iff.mp H
  obtain ⟨t287, A40, H⟩ := H
  replace H : (if t287 = true then (if t278.toList = t283.toList then (if t279 = t284 then ((counterfoillaw10_awake.f).bind fun t288 => (some t288)) else (some false)) else (some false)) else (some false)) = some r := H
  have A4 := Aside0.mk A40
  clear A40
  by_cases c5 : t287 = true
  · subst c5
    have H1 : (if t278.toList = t283.toList then (if t279 = t284 then ((counterfoillaw10_awake.f).bind fun t288 => (some t288)) else (some false)) else (some false)) = some r := by rw [if_pos rfl] at H; exact H
    clear H
    have H := H1
    clear H1
    by_cases c6 : t278.toList = t283.toList
    · rw [if_pos c6] at H
      have c6b0 : (t278.toList == t283.toList) = true := beq_iff_eq.mpr c6
      have c6b1 : (t278.toList != t283.toList) = false := bne_eq_false_iff_eq.mpr c6
      clear c6
      by_cases c7 : t279 = t284
      · rw [if_pos c7] at H
        have c7b0 : (t279 == t284) = true := beq_iff_eq.mpr c7
        have c7b1 : (t279 != t284) = false := bne_eq_false_iff_eq.mpr c7
        clear c7
        replace H := Option.bind_eq_some_iff.mp H
        obtain ⟨t288, A80, H⟩ := H
        replace H : (some t288) = some r := H
        have A8 := Aside0.mk A80
        clear A80
        obtain rfl := Option.some.inj H
        go_enter Try.func5, Try.ntmps5
        go_wp2_with (first | ((with_reducible refine gate_callee (f := 20) rfl ?_); refine goesL_ (some 11) rfl rfl Try.func20 (by kernel_rfl) rfl #[.string a0] rfl (by (try simp only [List.map_toArray, List.map_cons, List.map_nil]); first | done | rfl | (simp only [List.length_drop, List.length_take]; rfl)) ?_; (with_reducible refine (dirty_Parse.calls k a0 t277 t278 t279 _ A2.out).mono ?_); rintro e w9 ⟨v280, rfl, ho0, hb⟩; refine ⟨_, rfl, ?_⟩; have n0_ := Aside0.mk (Kd.R_lower ho0 (below_size (by repeat (first | (with_reducible first | exact HB.out | apply below_alloc | apply pw_below_drewN | apply below_drew1) | exact HB.out)))); have n1_ := Aside0.mk (below_step (by repeat (first | (with_reducible first | exact HB.out | apply below_alloc | apply pw_below_drewN | apply below_drew1) | exact HB.out)) hb); clear HB; have HO281 := n0_; have HB := n1_; clear n0_ n1_; (try clear hb); (try clear hb2); (try clear hk); (try clear hi); (try clear ho0)) | ((with_reducible refine gate_callee (f := 21) rfl ?_); refine goesL_ (some 17) rfl rfl Try.func21 (by kernel_rfl) rfl #[.string a0] rfl (by (try simp only [List.map_toArray, List.map_cons, List.map_nil]); first | done | rfl | (simp only [List.length_drop, List.length_take]; rfl)) ?_; (with_reducible refine (counterfoilref10_Parse.calls k a0 t282 t283 t284 _ A3.out).mono ?_); rintro e w10 ⟨v285, rfl, ho0, hb⟩; refine ⟨_, rfl, ?_⟩; have n0_ := Aside0.mk (Kd.R_elder' (by (with_reducible repeat (first | apply Kd.R_alloc | apply Kd.R_drewN | apply Kd.R_drew)); exact HO281.out) (Kd.R_base ho0) hb); have n1_ := Aside0.mk (Kd.R_lower (Kd.R_new' ho0 (Kd.R_lt (by (with_reducible repeat (first | apply Kd.R_alloc | apply Kd.R_drewN | apply Kd.R_drew)); exact HO281.out))) (below_size (by repeat (first | (with_reducible first | exact HB.out | apply below_alloc | apply pw_below_drewN | apply below_drew1) | exact HB.out)))); have n2_ := Aside0.mk (below_step (by repeat (first | (with_reducible first | exact HB.out | apply below_alloc | apply pw_below_drewN | apply below_drew1) | exact HB.out)) hb); clear HO281; clear HB; have HO281 := n0_; have HO286 := n1_; have HB := n2_; clear n0_ n1_ n2_; (try clear hb); (try clear hb2); (try clear hk); (try clear hi); (try clear ho0); obtain ⟨Ao11, co11, eo11⟩ := Kd.R_slice HO281.out; subst eo11; obtain ⟨Ao12, co12, eo12⟩ := Kd.R_slice HO286.out; subst eo12) | ((with_reducible refine gate_callee (f := 12) rfl ?_); refine goesL_ (some 23) rfl rfl Try.func12 (by kernel_rfl) rfl #[.slice Ao11 t277.length co11, .slice Ao12 t282.length co12] rfl (by (try simp only [List.map_toArray, List.map_cons, List.map_nil]); first | done | rfl | (simp only [List.length_drop, List.length_take]; rfl)) ?_; (with_reducible refine (counterfoilref10_Equal.calls k _ _ t277 _ _ t282 true _ ?side1 ?side2 ?side3 ?side4 A4.out).mono ?_); (case side1 => repeat (first | exact (Kd.R_reads' HO281.out).2.2 | (with_reducible refine Kd.C_alloc ?_ _) | (with_reducible refine Kd.C_drewN ?_ _) | (with_reducible refine Kd.C_drew ?_))); (case side2 => exact (Kd.R_reads' HO281.out).2.1); (case side3 => repeat (first | exact (Kd.R_reads' HO286.out).2.2 | (with_reducible refine Kd.C_alloc ?_ _) | (with_reducible refine Kd.C_drewN ?_ _) | (with_reducible refine Kd.C_drew ?_))); (case side4 => exact (Kd.R_reads' HO286.out).2.1); rintro e w' ⟨rfl, ⟨nd, rfl⟩⟩; refine ⟨_, rfl, ?_⟩) | (go_at_call 9; (with_reducible refine (counterfoillaw10_awake.calls  t288 _ A8.out).mono ?_); rintro e w13 ⟨rfl, hb⟩; have n0_ := Aside0.mk (Kd.R_below (by (with_reducible repeat (first | apply Kd.R_alloc | apply Kd.R_drewN | apply Kd.R_drew)); exact HO281.out) hb); have n1_ := Aside0.mk (Kd.R_below (by (with_reducible repeat (first | apply Kd.R_alloc | apply Kd.R_drewN | apply Kd.R_drew)); exact HO286.out) hb); have n2_ := Aside0.mk (below_step (by repeat (first | (with_reducible first | exact HB.out | apply below_alloc | apply pw_below_drewN | apply below_drew1) | exact HB.out)) hb); clear HO281; clear HO286; clear HB; have HO281 := n0_; have HO286 := n1_; have HB := n2_; clear n0_ n1_ n2_; (try clear hb); (try clear hb2); (try clear hk); (try clear hi)))
        go_ret
        exact ⟨by first | rfl | (simp [errW_none, errW_some] <;> rfl) | (simp [*, errW_none, errW_some] <;> rfl), by repeat (first | (with_reducible first | exact HB.out | apply below_alloc | apply pw_below_drewN | apply below_drew1) | exact HB.out)⟩
      · rw [if_neg c7] at H
        have c7b0 : (t279 == t284) = false := beq_eq_false_iff_ne.mpr c7
        have c7b1 : (t279 != t284) = true := bne_iff_ne.mpr c7
        exact absurd H (by simp [hr_])
    · rw [if_neg c6] at H
      have c6b0 : (t278.toList == t283.toList) = false := beq_eq_false_iff_ne.mpr c6
      have c6b1 : (t278.toList != t283.toList) = true := bne_iff_ne.mpr c6
      exact absurd H (by simp [hr_])
  · replace c5 := Bool.eq_false_iff.mpr c5
    subst c5
    have H1 : (some false) = some r := by rw [if_neg (show ¬ (false = true) by decide)] at H; exact H
    clear H
    have H := H1
    clear H1
    exact absurd H (by simp [hr_])

/-- THE ONE PURE STATEMENT of counterfoillaw10_DirtyParses: yours. -/
def counterfoillaw10_DirtyParses.Pure : Prop := ∀ (a0 : ByteArray), a0.size ≤ 140737488351232 → ∃ k, counterfoillaw10_DirtyParses.f k a0 = some true
theorem counterfoillaw10_DirtyParses.walk (P : counterfoillaw10_DirtyParses.Pure) (a0 : ByteArray) (w : World) (w0 : a0.size ≤ 140737488351232) :
    Calls Try.prog 5 #[.string a0] w fun e w' => e = .returned (.bool true) ∧ Below w.heap.size w w' := by
  obtain ⟨k, h⟩ := P a0 w0
  refine (counterfoillaw10_DirtyParses.calls k a0 true w rfl h).mono ?_
  rintro e w' ⟨rfl, hd⟩
  exact ⟨rfl, hd⟩

end Go.Proofs.Ytcigkejiompieaa.P
