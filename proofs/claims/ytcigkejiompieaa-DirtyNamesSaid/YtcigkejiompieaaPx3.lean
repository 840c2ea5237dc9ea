-- Printed by this session's own program wip/mprint.py
import Derived.Test.YtcigkejiompieaaPx0
import Derived.Test.YtcigkejiompieaaPx2
namespace Go.Proofs.Ytcigkejiompieaa.P
open Go.RowKit Go.Proofs.YtcigkejiompieaaW.PrintWords Go.Proofs.YtcigkejiompieaaW.PrintLast Go.Proofs.YtcigkejiompieaaW.PrintMore
attribute [local go_sem] max2_int min2_int max_two min_two max_three min_three max_four min_four   -- for this text's walks alone
set_option linter.unusedVariables false
set_option linter.unusedSimpArgs false

/-! ### dirty_Join: function 10 -/
def dirty_Join.f (k : Nat) (l0 l1 : List S63) : Option (List S63 × Int) :=
  (dirty_Right.f k l0).bind fun a => if a = true then (dirty_Right.f k l1).bind fun b => if b = true then (if inB l0 ∧ inB l1 then some (bitsTo (sprL [l0, l1] 2) 256, 0) else none) else some ([], 1) else some ([], 1)
theorem dirty_Join.mono : ∀ a0 a1 k, LeO (dirty_Join.f k a0 a1) (dirty_Join.f (k + 1) a0 a1) := by
  intro a0 a1 k
  unfold dirty_Join.f
  exact LeO.bind (dirty_Right.mono _ _) (fun _ => LeO.ite (LeO.bind (dirty_Right.mono _ _) (fun _ => LeO.refl _)) (LeO.refl _))
set_option maxHeartbeats 4000000 in
set_option maxRecDepth 100000 in
theorem dirty_Join.calls (k : Nat) (A0 : Option Addr) (c0 : Nat) (l0 : List S63) (A1 : Option Addr) (c1 : Nat) (l1 : List S63) (r1 : List S63) (r2 : Int) (w : World) (hr0 : Kd.C k63 w A0 l0.length l0) (hc0 : l0.length ≤ c0) (hr1 : Kd.C k63 w A1 l1.length l1) (hc1 : l1.length ≤ c1) (h : dirty_Join.f k l0 l1 = some (r1, r2)) :
    Calls Try.prog 10 #[.slice A0 l0.length c0, .slice A1 l1.length c1] w fun e w' => ∃ v0_ : Value, e = .returned (.tuple #[v0_, .int .i64 r2]) ∧ Kd.R k63 63 w' w.heap.size (fun _ => True) v0_ r1 ∧ Below w.heap.size w w' := by
  have HR0 := Aside0.mk hr0
  have HR1 := Aside0.mk hr1
  have HC0 := Aside0.mk hc0
  have HC1 := Aside0.mk hc1
  clear hr0 hr1 hc0 hc1
  unfold dirty_Join.f at h
  replace h := Option.bind_eq_some_iff.1 h
  obtain ⟨a, ha, h⟩ := h
  have HA := Aside0.mk ha
  have H := Aside0.mk h
  clear ha h
  go_enter Try.func10, Try.ntmps10
  go_wp2_with fail
  (with_reducible refine (dirty_Right.calls k _ _ l0 a _ HR0.out HC0.out HA.out).mono ?_)
  rintro e w1 ⟨rfl, hb⟩
  have HB1 := Aside0.mk hb
  clear hb HA
  cases a with
  | false =>
    have h := H.out
    rw [if_neg (by decide)] at h
    simp only [Option.some.injEq, Prod.mk.injEq] at h
    obtain ⟨rfl, rfl⟩ := h
    clear H
    go_wp2
    go_ret2
    exact ⟨_, rfl, Kd.R_nil _ _ _ _ _, HB1.out⟩
  | true =>
    have h := H.out
    rw [if_pos rfl] at h
    clear H
    replace h := Option.bind_eq_some_iff.1 h
    obtain ⟨b, hb, h⟩ := h
    have HA := Aside0.mk hb
    have H := Aside0.mk h
    clear hb h
    go_wp2_with fail
    (with_reducible refine (dirty_Right.calls k _ _ l1 b _ (Kd.C_below HR1.out HB1.out) HC1.out HA.out).mono ?_)
    rintro e w2 ⟨rfl, hb⟩
    have HB2 := Aside0.mk (below_step HB1.out hb)
    clear hb HA HB1
    cases b with
    | false =>
      have h := H.out
      rw [if_neg (by decide)] at h
      simp only [Option.some.injEq, Prod.mk.injEq] at h
      obtain ⟨rfl, rfl⟩ := h
      clear H
      go_wp2
      go_ret2
      exact ⟨_, rfl, Kd.R_nil _ _ _ _ _, HB2.out⟩
    | true =>
      have h := H.out
      rw [if_pos rfl] at h
      clear H
      by_cases hin : inB l0 ∧ inB l1
      · rw [if_pos hin] at h
        simp only [Option.some.injEq, Prod.mk.injEq] at h
        obtain ⟨rfl, rfl⟩ := h
        have HIN := Aside0.mk hin
        clear hin
        have HB3 := Aside0.mk (below_alloc HB2.out (.cells #[.slice A0 l0.length c0, .slice A1 l1.length c1] 22 (0, 0)))
        have BL := Aside0.mk (blk_new w2 (.cells #[.slice A0 l0.length c0, .slice A1 l1.length c1] 22 (0, 0)))
        have HL : Aside0 (∀ (j : Nat) (h : j < [l0, l1].length), ∃ A c, (w2.alloc (.cells #[.slice A0 l0.length c0, .slice A1 l1.length c1] 22 (0, 0))).cell? ⟨w2.heap.size, j, none⟩ = some (.slice A ([l0, l1][j]).length c) ∧ Kd.C k63 (w2.alloc (.cells #[.slice A0 l0.length c0, .slice A1 l1.length c1] 22 (0, 0))) A ([l0, l1][j]).length [l0, l1][j]) := ⟨by
          intro j hj
          match j, hj with
          | 0, _ => exact ⟨A0, c0, (blk_cell BL.out 0).trans rfl, Kd.C_below HR0.out HB3.out⟩
          | 1, _ => exact ⟨A1, c1, (blk_cell BL.out 1).trans rfl, Kd.C_below HR1.out HB3.out⟩⟩
        have HLen : Aside0 ([l0, l1].length ≤ 4611686018427387904) := ⟨by show 2 ≤ 4611686018427387904; decide⟩
        have HV : Aside0 (∀ m ∈ [l0, l1], inB m) := ⟨by
          intro m hm
          rcases List.mem_cons.1 hm with rfl | hm
          · exact HIN.out.1
          · rw [List.mem_singleton.1 hm]; exact HIN.out.2⟩
        go_wp2_with fail
        (with_reducible refine (dirty_spread.calls w2.heap.size 2 2 [l0, l1] _ rfl HLen.out HL.out HV.out).mono ?_)
        rintro e w3 ⟨rfl, hg, hb⟩
        have HG : Aside0 (w3.heap[w2.heap.size + 1]? = some (.cells (mrow (sprL [l0, l1] 2)) 78 (0, 0))) := ⟨by simpa using hg⟩
        have HB4 := Aside0.mk (below_step HB3.out hb)
        clear hg hb
        go_wp2_with fail
        (with_reducible refine (masks_bits.calls _ _ _ HG.out).mono ?_)
        rintro e w4 ⟨v0, rfl, hr, hb⟩
        have HR := Aside0.mk (Kd.R_lower hr HB4.out.size)
        have HW := Aside0.mk (below_step HB4.out hb)
        clear hr hb
        go_wp2
        go_ret2
        exact ⟨_, rfl, HR.out, HW.out⟩
      · rw [if_neg hin] at h
        cases h


/-! ### counterfoilref10_power: function 34 -/
def counterfoilref10_power.l0 : Nat → Int → Int → Int → Option (Int)
  | 0, _, _, _ => none
  | k + 1, x0, x3, x4 => if x4 < x0 then (counterfoilref10_power.l0 k x0 (IntKind.u64.wrap (2 * x3)) (wrap64 (x4 + 1))) else (some x3)
def counterfoilref10_power.f (k : Nat) (a0 : Int) : Option (Int) := counterfoilref10_power.l0 k a0 1 0
theorem counterfoilref10_power.mono_l : ∀ k, (∀ y0 y1 y2, LeO (counterfoilref10_power.l0 k y0 y1 y2) (counterfoilref10_power.l0 (k + 1) y0 y1 y2))
  | 0 => fun _ _ _ r h => by simp [counterfoilref10_power.l0] at h
  | k + 1 => by
    have ih0 := counterfoilref10_power.mono_l k
    · intro y0 y1 y2
      unfold counterfoilref10_power.l0
      repeat' first
      | (with_reducible exact ih0 _ _ _)
      | (with_reducible exact LeO.refl _)
      | (with_reducible exact LeO.none _)
      | (with_reducible refine LeO.ite ?_ ?_)
      | (with_reducible refine LeO.bind ?_ (fun _ => ?_))
      | exact ih0 _ _ _
      | exact LeO.none _
      | refine LeO.ite ?_ ?_
      | refine LeO.bind ?_ (fun _ => ?_)
theorem counterfoilref10_power.mono : ∀ a0 k, LeO (counterfoilref10_power.f k a0) (counterfoilref10_power.f (k + 1) a0) := by
  intro a0 k
  have ih0 := counterfoilref10_power.mono_l k
  unfold counterfoilref10_power.f
  repeat' first
      | (with_reducible exact ih0 _ _ _)
      | (with_reducible exact LeO.refl _)
      | (with_reducible exact LeO.none _)
      | (with_reducible refine LeO.ite ?_ ?_)
      | (with_reducible refine LeO.bind ?_ (fun _ => ?_))
      | exact ih0 _ _ _
      | exact LeO.none _
      | refine LeO.ite ?_ ?_
      | refine LeO.bind ?_ (fun _ => ?_)
set_option maxHeartbeats 8000000 in
set_option maxRecDepth 100000 in
theorem counterfoilref10_power.calls (k : Nat) (a0 : Int) (r : Int) (w : World) (h : counterfoilref10_power.f k a0 = some r) :
    Calls Try.prog 34 #[.int .i64 a0] w fun e w' => e = .returned (.int .u64 r) ∧ Drawn0 w w' := by
  have H : (counterfoilref10_power.l0 k a0 1 0) = some r := h
  clear h
  have H' := Aside0.mk H
  clear H
  go_enter Try.func34, Try.ntmps34
  go_wp2
  go_loopg [3, 4] k (fun kq v3 v4 w' => ∃ (x3_1 : Int) (x4_1 : Int), v3 = .int .u64 x3_1 ∧ v4 = .int .i64 x4_1 ∧ Aside0 (counterfoilref10_power.l0 kq a0 x3_1 x4_1 = some r) ∧ Aside0 (kq ≤ k) ∧ Drawn0 w w')
  case atStart => exact ⟨(1), (0), (by first | rfl | (simp; done) | (simp [*]; done)), (by first | rfl | (simp; done) | (simp [*]; done)), H', ⟨Nat.le_refl _⟩, by repeat (first | exact Drawn0.refl _ | apply Drawn0.step)⟩
  case round =>
    clear H'
    obtain ⟨x3_1, x4_1, rfl, rfl, HA, HK1, ⟨m1, rfl⟩⟩ := hrel
    cases gk with
    | zero => exact absurd HA.out (by simp [counterfoilref10_power.l0])
    | succ k1 =>
      have H := HA.out
      clear HA
      simp only [counterfoilref10_power.l0] at H
      by_cases c2 : x4_1 < a0
      · rw [if_pos c2] at H
        have c2b0 : decide (x4_1 < a0) = true := decide_eq_true c2
        clear c2
        have H' := Aside0.mk H
        clear H
        go_wp2
        go_roundg k1
        case measure => have := HK1.out; omega
        case rel => exact ⟨(IntKind.u64.wrap (2 * x3_1)), (wrap64 (x4_1 + 1)), (by first | rfl | (simp; done) | (simp [*]; done)), (by first | rfl | (simp; done) | (simp [*]; done)), H', ⟨by have := HK1.out; omega⟩, by repeat (first | exact Drawn0.refl _ | apply Drawn0.step)⟩
      · rw [if_neg c2] at H
        have c2b0 : decide (x4_1 < a0) = false := decide_eq_false c2
        clear c2
        obtain rfl := Option.some.inj H
        go_wp2
        go_ret
        exact ⟨by first | rfl | (simp; done) | (simp [*]; done), by repeat (first | exact Drawn0.refl _ | apply Drawn0.step)⟩

end Go.Proofs.Ytcigkejiompieaa.P
