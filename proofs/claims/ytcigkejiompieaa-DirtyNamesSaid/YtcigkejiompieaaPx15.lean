-- Printed by this session's own program wip/mprint.py
import Derived.Test.YtcigkejiompieaaPx0
import Derived.Test.YtcigkejiompieaaPx2
import Derived.Test.YtcigkejiompieaaPx5
import Derived.Test.YtcigkejiompieaaPx6
import Derived.Test.YtcigkejiompieaaPx12
import Derived.Test.YtcigkejiompieaaPx13
import Derived.Test.YtcigkejiompieaaPx14
namespace Go.Proofs.Ytcigkejiompieaa.P
open Go.RowKit Go.Proofs.YtcigkejiompieaaW.PrintWords Go.Proofs.YtcigkejiompieaaW.PrintLast Go.Proofs.YtcigkejiompieaaW.PrintMore
attribute [local go_sem] max2_int min2_int max_two min_two max_three min_three max_four min_four   -- for this text's walks alone
set_option linter.unusedVariables false
set_option linter.unusedSimpArgs false

/-! ### counterfoilref10_All: function 27 -/
mutual
def counterfoilref10_All.l0 : Nat → List (S76) → List (S37) → Int → Option ((List (S37)))
  | 0, _, _, _ => none
  | k + 1, x0, x3, x4 => if x4 < (x0.length : Int) then (counterfoilref10_All.l1 k x0 x3 x4 0) else (some x3)
def counterfoilref10_All.l1 : Nat → List (S76) → List (S37) → Int → Int → Option ((List (S37)))
  | 0, _, _, _, _ => none
  | k + 1, x0, x3, x4, x5 => if 0 ≤ x4 then (if x4 < (x0.length : Int) then (if x5 < (((rd_T76 x0 x4).f1).length : Int) then (if x3.length < 8796093022208 then (counterfoilref10_All.l1 k x0 (x3 ++ [(⟨(rd_T76 x0 x4).f0, x5⟩ : S37)]) x4 (wrap64 (x5 + 1))) else (none)) else (counterfoilref10_All.l0 k x0 x3 (wrap64 (x4 + 1)))) else (none)) else (none)
end
def counterfoilref10_All.f (k : Nat) (l0 : List (S76)) : Option ((List (S37))) := counterfoilref10_All.l0 k l0 ([] : List (S37)) 0
theorem counterfoilref10_All.mono_l : ∀ k, (∀ y0 y1 y2, LeO (counterfoilref10_All.l0 k y0 y1 y2) (counterfoilref10_All.l0 (k + 1) y0 y1 y2)) ∧ (∀ y0 y1 y2 y3, LeO (counterfoilref10_All.l1 k y0 y1 y2 y3) (counterfoilref10_All.l1 (k + 1) y0 y1 y2 y3))
  | 0 => ⟨fun _ _ _ r h => by simp [counterfoilref10_All.l0] at h, fun _ _ _ _ r h => by simp [counterfoilref10_All.l1] at h⟩
  | k + 1 => by
    obtain ⟨ih0, ih1⟩ := counterfoilref10_All.mono_l k
    refine ⟨?_, ?_⟩
    · intro y0 y1 y2
      unfold counterfoilref10_All.l0
      repeat' first
      | (with_reducible exact ih0 _ _ _)
      | (with_reducible exact ih1 _ _ _ _)
      | (with_reducible exact LeO.refl _)
      | (with_reducible exact LeO.none _)
      | (with_reducible refine LeO.ite ?_ ?_)
      | (with_reducible refine LeO.bind ?_ (fun _ => ?_))
      | exact ih0 _ _ _
      | exact ih1 _ _ _ _
      | exact LeO.none _
      | refine LeO.ite ?_ ?_
      | refine LeO.bind ?_ (fun _ => ?_)
    · intro y0 y1 y2 y3
      unfold counterfoilref10_All.l1
      repeat' first
      | (with_reducible exact ih0 _ _ _)
      | (with_reducible exact ih1 _ _ _ _)
      | (with_reducible exact LeO.refl _)
      | (with_reducible exact LeO.none _)
      | (with_reducible refine LeO.ite ?_ ?_)
      | (with_reducible refine LeO.bind ?_ (fun _ => ?_))
      | exact ih0 _ _ _
      | exact ih1 _ _ _ _
      | exact LeO.none _
      | refine LeO.ite ?_ ?_
      | refine LeO.bind ?_ (fun _ => ?_)
theorem counterfoilref10_All.mono : ∀ a0 k, LeO (counterfoilref10_All.f k a0) (counterfoilref10_All.f (k + 1) a0) := by
  intro a0 k
  obtain ⟨ih0, ih1⟩ := counterfoilref10_All.mono_l k
  unfold counterfoilref10_All.f
  repeat' first
      | (with_reducible exact ih0 _ _ _)
      | (with_reducible exact ih1 _ _ _ _)
      | (with_reducible exact LeO.refl _)
      | (with_reducible exact LeO.none _)
      | (with_reducible refine LeO.ite ?_ ?_)
      | (with_reducible refine LeO.bind ?_ (fun _ => ?_))
      | exact ih0 _ _ _
      | exact ih1 _ _ _ _
      | exact LeO.none _
      | refine LeO.ite ?_ ?_
      | refine LeO.bind ?_ (fun _ => ?_)
set_option maxHeartbeats 8000000 in
set_option maxRecDepth 100000 in
theorem counterfoilref10_All.calls (k : Nat) (A0 : Option Addr) (c0 : Nat) (l0 : List (S76)) (r : List (S37)) (w : World) (hr0 : Kd.C k76 w A0 l0.length l0) (hc0 : l0.length ≤ c0) (h : counterfoilref10_All.f k l0 = some r) :
    Calls Try.prog 27 #[.slice A0 l0.length c0] w fun e w' => ∃ v0_ : Value, e = .returned (v0_) ∧ Kd.R k37 37 w' w.heap.size (fun _ => True) v0_ r ∧ Below w.heap.size w w' := by
  have hu37 := Try.underlying37
  have HR0 := Aside0.mk hr0
  have HC0 := Aside0.mk hc0
  clear hr0 hc0
  have HB := Aside0.mk (Below.refl w.heap.size w)
  have H : (counterfoilref10_All.l0 k l0 ([] : List (S37)) 0) = some r := h
  clear h
  have H' := Aside0.mk H
  clear H
  go_enter Try.func27, Try.ntmps27
  go_wp2
  go_loopg [3, 4] k (fun kq v3 v4 w' => ∃ (x3_1 : List (S37)) (x4_1 : Int), v4 = .int .i64 x4_1 ∧ Aside0 (counterfoilref10_All.l0 kq l0 x3_1 x4_1 = some r) ∧ Aside0 (kq ≤ k) ∧ Aside0 (Kd.R k37 37 w' w.heap.size (fun _ => True) v3 x3_1) ∧ Aside0 (Below w.heap.size w w'))
  case atStart => exact ⟨(([] : List (S37))), (0), (by first | rfl | (simp; done) | (simp [*]; done)), H', ⟨Nat.le_refl _⟩, ⟨by first | exact Kd.R_nil _ _ _ _ _ | exact Kd.N_nil _ _ _ _ _ | exact Kd.V_nil _ _ _ _ _ | exact Kd.Q_nil _ _ _ _ _ | exact Kd.S_nil _ _ _ _ _⟩, ⟨by repeat (first | (with_reducible first | exact HB.out | apply below_alloc | apply pw_below_drewN | apply below_drew1) | exact HB.out)⟩⟩
  case round =>
    clear H'
    obtain ⟨x3_1, x4_1, rfl, HA, HK1, HO_3, HB⟩ := hrel
    cases gk with
    | zero => exact absurd HA.out (by simp [counterfoilref10_All.l0])
    | succ k1 =>
      have H := HA.out
      clear HA
      simp only [counterfoilref10_All.l0] at H
      by_cases c2 : x4_1 < (l0.length : Int)
      · rw [if_pos c2] at H
        have c2b0 : decide (x4_1 < (l0.length : Int)) = true := decide_eq_true c2
        clear c2
        have H' := Aside0.mk H
        clear H
        go_wp2
        go_loopg [3, 5] k1 (fun kq v3 v5 w' => ∃ (x3_2 : List (S37)) (x5_2 : Int), v5 = .int .i64 x5_2 ∧ Aside0 (counterfoilref10_All.l1 kq l0 x3_2 x4_1 x5_2 = some r) ∧ Aside0 (kq ≤ k1) ∧ Aside0 (Kd.R k37 37 w' w.heap.size (fun _ => True) v3 x3_2) ∧ Aside0 (Below w.heap.size w w'))
        case atStart => exact ⟨(x3_1), (0), (by first | rfl | (simp; done) | (simp [*]; done)), H', ⟨Nat.le_refl _⟩, ⟨by (with_reducible repeat (first | apply Kd.R_alloc | apply Kd.R_drewN | apply Kd.R_drew)); exact HO_3.out⟩, ⟨by repeat (first | (with_reducible first | exact HB.out | apply below_alloc | apply pw_below_drewN | apply below_drew1) | exact HB.out)⟩⟩
        case round =>
          clear H'
          try clear c2
          try clear c2b0
          try clear p2
          obtain ⟨x3_2, x5_2, rfl, HA, HK2, HO_3, HB⟩ := hrel
          cases gk with
          | zero => exact absurd HA.out (by simp [counterfoilref10_All.l1])
          | succ k2 =>
            have H := HA.out
            clear HA
            simp only [counterfoilref10_All.l1] at H
            by_cases c3 : 0 ≤ x4_1
            · rw [if_pos c3] at H
              have c3b0 : decide (0 ≤ x4_1) = true := decide_eq_true c3
              clear c3
              by_cases c4 : x4_1 < (l0.length : Int)
              · rw [if_pos c4] at H
                have c4b0 : decide (x4_1 < (l0.length : Int)) = true := decide_eq_true c4
                clear c4
                by_cases c5 : x5_2 < (((rd_T76 l0 x4_1).f1).length : Int)
                · rw [if_pos c5] at H
                  have c5b0 : decide (x5_2 < (((rd_T76 l0 x4_1).f1).length : Int)) = true := decide_eq_true c5
                  clear c5
                  by_cases c6 : x3_2.length < 8796093022208
                  · rw [if_pos c6] at H
                    have LMc6 := Aside0.mk c6
                    clear c6
                    obtain ⟨y318, hy318⟩ : ∃ y_ : List (S37), y_ = (x3_2 ++ [(⟨(rd_T76 l0 x4_1).f0, x5_2⟩ : S37)]) := ⟨_, rfl⟩
                    replace H : (counterfoilref10_All.l1 k2 l0 y318 x4_1 (wrap64 (x5_2 + 1))) = some r := by first | (rw [hy318]; with_reducible exact H) | (have H2_ := (Option.bind_some _ _).symm.trans H; rw [hy318]; with_reducible exact H2_) | (have H2_ := (Option.bind_some _ _).symm.trans H; with_reducible exact H2_) | with_reducible exact H | (rw [hy318]; exact H) | exact H
                    have Ny318 := Aside0.mk hy318
                    clear hy318
                    have H' := Aside0.mk H
                    clear H
                    have p316 : 0 ≤ (x4_1 : Int) := of_decide_eq_true (by first | (with_reducible assumption) | assumption)
                    have q316 : x4_1 < (l0.length : Int) := of_decide_eq_true (by first | (with_reducible assumption) | assumption)
                    obtain ⟨ad316, A316_1, c316_1, e316, hx316_0, hx316_1, hl316_1, hi316_1⟩ := at_T76 HR0.out x4_1 p316 q316
                    cases e316
                    replace hx316_0 := (HB.out.cell (World.block_lt_of_cell? w _ hx316_0)).trans hx316_0
                    replace hx316_1 := (HB.out.cell (World.block_lt_of_cell? w _ hx316_1)).trans hx316_1
                    have HR316_1 := Aside0.mk hi316_1
                    have HC316_1 := Aside0.mk hl316_1
                    clear hi316_1 hl316_1
                    replace p316 := eq_true p316
                    replace q316 := eq_true q316
                    have p317 : 0 ≤ (x4_1 : Int) := of_decide_eq_true (by first | (with_reducible assumption) | assumption)
                    have q317 : x4_1 < (l0.length : Int) := of_decide_eq_true (by first | (with_reducible assumption) | assumption)
                    obtain ⟨ad317, A317_1, c317_1, e317, hx317_0, hx317_1, hl317_1, hi317_1⟩ := at_T76 HR0.out x4_1 p317 q317
                    obtain rfl : ad316 = ad317 := (by injection e317)
                    replace hx317_0 := (HB.out.cell (World.block_lt_of_cell? w _ hx317_0)).trans hx317_0
                    replace hx317_1 := (HB.out.cell (World.block_lt_of_cell? w _ hx317_1)).trans hx317_1
                    have HR317_1 := Aside0.mk hi317_1
                    have HC317_1 := Aside0.mk hl317_1
                    clear hi317_1 hl317_1
                    replace p317 := eq_true p317
                    replace q317 := eq_true q317
                    have ea_ := Option.some.inj (hx316_1.symm.trans hx317_1)
                    injection ea_ with ea_ en_ ec_
                    subst ea_
                    subst ec_
                    clear en_
                    go_wp2_with (first | ((with_reducible refine gate_builtin (b := .append) (xs := #[.tmp 22, .tmp 30]) rfl ?_); at_builtin; refine Kd.R_append k37 (w0 := w) w.heap.size rfl (.tmp 22) (.tmp 30) 34 37 (.agg #[(.int .i64 0), (.int .i64 0)]) 16 rfl Try.underlying34 info37 rfl (by decide) (by omega) u3 x3_2 (⟨(rd_T76 l0 x4_1).f0, x5_2⟩ : S37) [.int .i64 ((rd_T76 l0 x4_1).f0), .int .i64 x5_2] (fun _ => True) (fun _ => False) rfl rfl ?aP (fun _ hk => hk.elim) ?aF ?aO ?aB ?aS ?aL ?_; (case aP => exact k37_mkM _ _ _ (⟨(rd_T76 l0 x4_1).f0, x5_2⟩ : S37)); (case aB => exact (by repeat (first | (with_reducible first | exact HB.out | apply below_alloc | apply pw_below_drewN | apply below_drew1) | exact HB.out))); (case aF => exact (fun _ _ => trivial)); (case aO => exact (by (with_reducible repeat (first | apply Kd.R_alloc | apply Kd.R_drewN | apply Kd.R_drew)); exact HO_3.out)); (case aS => exact (below_size (by repeat (first | (with_reducible first | exact HB.out | apply below_alloc | apply pw_below_drewN | apply below_drew1) | exact HB.out)))); (case aL => have := LMc6.out; omega); intro v319 w7 ho hb hg hat; rw [← Ny318.out] at ho; have n0_ := Aside0.mk (hb); have n1_ := Aside0.mk (ho); clear HB; clear HO_3; have HB := n0_; have HO320 := n1_; clear n0_ n1_; clear ho hb hg hat))
                    go_roundg k2
                    case measure => have := HK1.out; have := HK2.out; omega
                    case rel => exact ⟨(y318), (wrap64 (x5_2 + 1)), (by first | rfl | (simp; done) | (simp [*]; done)), H', ⟨by have := HK1.out; have := HK2.out; omega⟩, ⟨by (with_reducible repeat (first | apply Kd.R_alloc | apply Kd.R_drewN | apply Kd.R_drew)); exact HO320.out⟩, ⟨by repeat (first | (with_reducible first | exact HB.out | apply below_alloc | apply pw_below_drewN | apply below_drew1) | exact HB.out)⟩⟩
                  · rw [if_neg c6] at H
                    exact absurd H (by simp)
                · rw [if_neg c5] at H
                  have c5b0 : decide (x5_2 < (((rd_T76 l0 x4_1).f1).length : Int)) = false := decide_eq_false c5
                  clear c5
                  have H' := Aside0.mk H
                  clear H
                  have p316 : 0 ≤ (x4_1 : Int) := of_decide_eq_true (by first | (with_reducible assumption) | assumption)
                  have q316 : x4_1 < (l0.length : Int) := of_decide_eq_true (by first | (with_reducible assumption) | assumption)
                  obtain ⟨ad316, A316_1, c316_1, e316, hx316_0, hx316_1, hl316_1, hi316_1⟩ := at_T76 HR0.out x4_1 p316 q316
                  cases e316
                  replace hx316_0 := (HB.out.cell (World.block_lt_of_cell? w _ hx316_0)).trans hx316_0
                  replace hx316_1 := (HB.out.cell (World.block_lt_of_cell? w _ hx316_1)).trans hx316_1
                  have HR316_1 := Aside0.mk hi316_1
                  have HC316_1 := Aside0.mk hl316_1
                  clear hi316_1 hl316_1
                  replace p316 := eq_true p316
                  replace q316 := eq_true q316
                  go_wp2
                  go_roundg k2
                  case measure => have := HK1.out; have := HK2.out; omega
                  case rel => exact ⟨(x3_2), (wrap64 (x4_1 + 1)), (by first | rfl | (simp; done) | (simp [*]; done)), H', ⟨by have := HK1.out; have := HK2.out; omega⟩, ⟨by (with_reducible repeat (first | apply Kd.R_alloc | apply Kd.R_drewN | apply Kd.R_drew)); exact HO_3.out⟩, ⟨by repeat (first | (with_reducible first | exact HB.out | apply below_alloc | apply pw_below_drewN | apply below_drew1) | exact HB.out)⟩⟩
              · rw [if_neg c4] at H
                exact absurd H (by simp)
            · rw [if_neg c3] at H
              exact absurd H (by simp)
      · rw [if_neg c2] at H
        have c2b0 : decide (x4_1 < (l0.length : Int)) = false := decide_eq_false c2
        clear c2
        obtain rfl := Option.some.inj H
        go_wp2
        go_ret
        exact ⟨_, by first | rfl | (simp [errW_none, errW_some] <;> rfl) | (simp [*, errW_none, errW_some] <;> rfl), by (with_reducible repeat (first | apply Kd.R_alloc | apply Kd.R_drewN | apply Kd.R_drew)); exact HO_3.out, by repeat (first | (with_reducible first | exact HB.out | apply below_alloc | apply pw_below_drewN | apply below_drew1) | exact HB.out)⟩

/-! ### dirty_Within: function 28 -/
def withinB (T : Nat → Int) (m : List S63) : Bool := m.all fun b => Go.bits .andNot .u64 b.f1 (T b.f0.toNat) == 0
def dirty_Within.f (k : Nat) (l0 : List S63) (l1 : List S76) : Option Bool :=
  (dirty_Right.f k l0).bind fun a => if a = true then ((vols_Right.f k l1).bind fun b => if b = true then ((dirty_All.f k l1).bind fun c => if inB l0 ∧ inB c then some (withinB (sprL [c] 1) l0) else none) else some false) else some false
theorem dirty_Within.mono : ∀ a0 a1 k, LeO (dirty_Within.f k a0 a1) (dirty_Within.f (k + 1) a0 a1) := by
  intro a0 a1 k
  unfold dirty_Within.f
  repeat' first
    | (with_reducible exact LeO.refl _)
    | (with_reducible exact dirty_Right.mono _ _)
    | (with_reducible exact vols_Right.mono _ _)
    | (with_reducible exact dirty_All.mono _ _)
    | (with_reducible refine LeO.ite ?_ ?_)
    | (with_reducible refine LeO.bind ?_ (fun _ => ?_))
set_option maxHeartbeats 4000000 in
set_option maxRecDepth 100000 in
theorem dirty_Within.calls (k : Nat) (A0 : Option Addr) (c0 : Nat) (l0 : List S63) (A1 : Option Addr) (c1 : Nat) (l1 : List S76) (r : Bool) (w : World) (hr0 : Kd.C k63 w A0 l0.length l0) (hc0 : l0.length ≤ c0) (hr1 : Kd.C k76 w A1 l1.length l1) (hc1 : l1.length ≤ c1) (h : dirty_Within.f k l0 l1 = some r) :
    Calls Try.prog 28 #[.slice A0 l0.length c0, .slice A1 l1.length c1] w fun e w' => e = .returned (.bool r) ∧ Below w.heap.size w w' := by
  have HR0 := Aside0.mk hr0
  have HR1 := Aside0.mk hr1
  have HC0 := Aside0.mk hc0
  have HC1 := Aside0.mk hc1
  clear hr0 hr1 hc0 hc1
  unfold dirty_Within.f at h
  replace h := Option.bind_eq_some_iff.1 h
  obtain ⟨a, ha, h⟩ := h
  have HA := Aside0.mk ha
  have H := Aside0.mk h
  clear ha h
  go_enter Try.func28, Try.ntmps28
  go_wp2_with fail
  (with_reducible refine (dirty_Right.calls k _ _ l0 a _ HR0.out HC0.out HA.out).mono ?_)
  rintro e w1 ⟨rfl, hb⟩
  have HB1 := Aside0.mk hb
  clear hb HA
  cases a with
  | false =>
    have h := H.out
    rw [if_neg (by decide)] at h
    obtain rfl := Option.some.inj h
    clear H
    go_wp2
    go_ret
    exact ⟨rfl, HB1.out⟩
  | true =>
    have h := H.out
    rw [if_pos rfl] at h
    clear H
    replace h := Option.bind_eq_some_iff.1 h
    obtain ⟨b, hb, h⟩ := h
    have HA := Aside0.mk hb
    have H := Aside0.mk h
    clear hb h
    go_wp2_with fail
    (with_reducible refine (vols_Right.calls k _ _ l1 b _ (Kd.C_below HR1.out HB1.out) HC1.out HA.out).mono ?_)
    rintro e w2 ⟨rfl, hb⟩
    have HB2 := Aside0.mk (below_step HB1.out hb)
    clear hb HA HB1
    cases b with
    | false =>
      have h := H.out
      rw [if_neg (by decide)] at h
      obtain rfl := Option.some.inj h
      clear H
      go_wp2
      go_ret
      exact ⟨rfl, HB2.out⟩
    | true =>
      have h := H.out
      rw [if_pos rfl] at h
      clear H
      replace h := Option.bind_eq_some_iff.1 h
      obtain ⟨c, hb, h⟩ := h
      have HA := Aside0.mk hb
      by_cases hin : inB l0 ∧ inB c
      · rw [if_pos hin] at h
        have HIN := Aside0.mk hin
        have H := Aside0.mk (Option.some.inj h)
        clear hb h hin
        go_wp2_with fail
        (with_reducible refine (dirty_All.calls k _ _ l1 c _ (Kd.C_below HR1.out HB2.out) HC1.out HA.out).mono ?_)
        rintro e w3 ⟨v0, rfl, hr, hb⟩
        obtain ⟨AA, cc, rfl, hle, hC⟩ := Kd.R_reads hr
        have HB3 := Aside0.mk (below_step HB2.out hb)
        have HRC := Aside0.mk hC
        clear hb HA HB2 hr hle hC HR1 HC1
        have HB4 := Aside0.mk (below_alloc HB3.out (.cells #[.slice AA c.length cc] 22 (0, 0)))
        have BL := Aside0.mk (blk_new w3 (.cells #[.slice AA c.length cc] 22 (0, 0)))
        have HL : Aside0 (∀ (j : Nat) (h : j < [c].length), ∃ A c', (w3.alloc (.cells #[.slice AA c.length cc] 22 (0, 0))).cell? ⟨w3.heap.size, j, none⟩ = some (.slice A ([c][j]).length c') ∧ Kd.C k63 (w3.alloc (.cells #[.slice AA c.length cc] 22 (0, 0))) A ([c][j]).length [c][j]) := ⟨by
          intro j hj
          match j, hj with
          | 0, _ => exact ⟨AA, cc, (blk_cell BL.out 0).trans rfl, Kd.C_below HRC.out (below_alloc (Below.refl _ _) _)⟩⟩
        have HLen : Aside0 ([c].length ≤ 4611686018427387904) := ⟨by show 1 ≤ 4611686018427387904; decide⟩
        have HV : Aside0 (∀ m ∈ [c], inB m) := ⟨by
          intro m hm
          rw [List.mem_singleton.1 hm]; exact HIN.out.2⟩
        go_wp2_with fail
        (with_reducible refine (dirty_spread.calls w3.heap.size 1 1 [c] _ rfl HLen.out HL.out HV.out).mono ?_)
        rintro e w4 ⟨rfl, hg, hb⟩
        have HG : Aside0 (w4.heap[w3.heap.size + 1]? = some (.cells (mrow (sprL [c] 1)) 78 (0, 0))) := ⟨by simpa using hg⟩
        have HB5 := Aside0.mk (below_step HB4.out hb)
        clear hg hb HL HLen HV BL HB4 HRC
        obtain ⟨T, hT⟩ : ∃ T, T = sprL [c] 1 := ⟨_, rfl⟩
        rw [← hT] at HG H
        clear hT
        have HGB : Aside0 (w.heap.size ≤ w3.heap.size + 1) := ⟨by have := HB3.out.size; omega⟩
        have hgs : (w3.alloc (.cells #[.slice AA c.length cc] 22 (0, 0))).heap.size = w3.heap.size + 1 := by simp
        try rw [hgs]
        clear hgs HB3
        generalize w3.heap.size + 1 = gt at HG HGB ⊢
        have HHI := HIN.out.1
        replace HIN := Aside0.mk HHI
        clear HHI
        have hmax : l0.length ≤ 9223372036854775807 := HR0.out.2.1
        have H0 : Aside0 (withinB T (l0.drop 0) = r) := H
        clear H
        go_wp2
        go_loopw [22] (fun i wr => ∃ i' : Nat, i' ≤ l0.length ∧ i = .int .i64 i' ∧ Aside0 (withinB T (l0.drop i') = r) ∧ Aside0 (wr.heap[gt]? = some (.cells (mrow T) 78 (0, 0))) ∧ Aside0 (Below w.heap.size w wr)) (fun i _ => l0.length - (intOf i).toNat)
        case atStart => exact ⟨0, by omega, rfl, H0, HG, HB5⟩
        case round =>
          clear H0 HG HB5
          obtain ⟨i, hi, rfl, H, HG, HB5⟩ := hrel
          by_cases hi2 : i < l0.length
          · have c3 : decide ((i : Int) < (l0.length : Int)) = true := decide_eq_true (by omega)
            have d5 : (0 : Int) ≤ (i : Int) := by omega
            have d6 : (i : Int) < (l0.length : Int) := by omega
            obtain ⟨b, hb⟩ : ∃ b, b = rd_T63 l0 (i : Int) := ⟨_, rfl⟩
            have HD : Aside0 (withinB T (l0.drop i) = ((Go.bits .andNot .u64 b.f1 (T b.f0.toNat) == 0) && withinB T (l0.drop (i + 1)))) := ⟨by
              rw [hb, List.drop_eq_getElem_cons hi2]
              have hd : rd_T63 l0 (i : Int) = l0[i] := by
                unfold rd_T63
                rw [Int.toNat_natCast, List.getD_eq_getElem?_getD, List.getElem?_eq_getElem hi2]
                rfl
              rw [hd]
              rfl⟩
            obtain ⟨d7, d8⟩ := HIN.out b (hb ▸ rd_mem l0 i hi2)
            obtain ⟨v, hv⟩ := Int.eq_ofNat_of_zero_le d7
            obtain ⟨ad, hA, x0, x1⟩ := at_T63 HR0.out (i : Int) d5 d6
            rw [← hb, hv] at x0
            rw [← hb] at x1
            rw [Int.toNat_natCast] at x0 x1
            subst hA
            replace x0 := (HB5.out.cell (World.block_lt_of_cell? w _ x0)).trans x0
            replace x1 := (HB5.out.cell (World.block_lt_of_cell? w _ x1)).trans x1
            have d4 : v < 256 := by omega
            have d9 : (0 : Int) ≤ (v : Int) := by omega
            have d10 : (v : Int) < 256 := by omega
            rw [hv, Int.toNat_natCast] at HD
            clear hb hv d7 d8
            have HT := Aside0.mk (blk_alloc HG.out (.cells #[.int .i64 (v : Int), .int .u64 b.f1] 63 (0, 0)))
            have HBb := Aside0.mk (blk_new wr (.cells #[.int .i64 (v : Int), .int .u64 b.f1] 63 (0, 0)))
            have HW := Aside0.mk (below_alloc HB5.out (.cells #[.int .i64 (v : Int), .int .u64 b.f1] 63 (0, 0)))
            clear HG HB5
            go_upto_region 7 with (fail)
            replace HT := Aside0.mk (blk_drew HT.out)
            replace HBb := Aside0.mk (blk_drew HBb.out)
            replace HW := Aside0.mk (below_drew1 HW.out)
            generalize wr.alloc (.cells #[.int .i64 (v : Int), .int .u64 b.f1] 63 (0, 0)) = Wb at HT HBb HW ⊢
            generalize wr.heap.size = gb at HBb ⊢
            refine start_ (n := 10) (S := fun w' => w'.cell? ⟨gb, 0, none⟩ = some (.int .i64 (v : Int)) ∧ w'.cell? ⟨gb, 1, none⟩ = some (.int .u64 b.f1) ∧ w'.cell? ⟨gt, v, none⟩ = some (.int .u64 (T v))) (ds := []) #[false, false, false, false, false, false, false, false, false, false] (by kernel_rfl) rfl rfl ⟨(blk_cell HBb.out 0).trans rfl, (blk_cell HBb.out 1).trans rfl, mrow_cell HT.out v d4⟩ (fun hHeld => ?_)
            generalize World.drew Wb = V at HT HBb HW hHeld ⊢
            refine pure_ (i := 0) (N := some 26) (v := ?_) (a' := ?_) #[true, false, false, false, false, false, false, false, false, false] rfl rfl (by kernel_rfl) (fun _ _ _ h => h) (Or.inl ⟨by rfl, ?_⟩) ?_ ?_
            rotate_left
            · intro w'
              go_simp
              with_reducible rfl
            rotate_left
            · simp only [Act.put, List.setIfInBounds_toArray, List.set_cons_zero, List.set_cons_succ, i64_w, i32_w]
              rfl
            refine pure_ (i := 2) (N := some 28) (v := ?_) (a' := ?_) #[true, false, true, false, false, false, false, false, false, false] rfl rfl (by kernel_rfl) (fun _ _ _ h => h) (Or.inl ⟨by rfl, ?_⟩) ?_ ?_
            rotate_left
            · intro w'
              go_simp
              with_reducible rfl
            rotate_left
            · simp only [Act.put, List.setIfInBounds_toArray, List.set_cons_zero, List.set_cons_succ, i64_w, i32_w]
              rfl
            refine pure_ (i := 3) (N := some 29) (v := ?_) (a' := ?_) #[true, false, true, true, false, false, false, false, false, false] rfl rfl (by kernel_rfl) (fun _ _ _ h => h) (Or.inl ⟨by rfl, ?_⟩) ?_ ?_
            rotate_left
            · intro w'
              go_simp
              with_reducible rfl
            rotate_left
            · simp only [Act.put, List.setIfInBounds_toArray, List.set_cons_zero, List.set_cons_succ, i64_w, i32_w]
              rfl
            refine pure_ (i := 5) (N := some 31) (v := ?_) (a' := ?_) #[true, false, true, true, false, true, false, false, false, false] rfl rfl (by kernel_rfl) (fun _ _ _ h => h) (Or.inl ⟨by rfl, ?_⟩) ?_ ?_
            rotate_left
            · intro w'
              go_simp
              with_reducible rfl
            rotate_left
            · simp only [Act.put, List.setIfInBounds_toArray, List.set_cons_zero, List.set_cons_succ, i64_w, i32_w]
              rfl
            refine take_ (i := 1) (N := some 27) (v := ?_) (a' := ?_) #[true, true, true, true, false, true, false, false, false, false] rfl rfl (by kernel_rfl) (fun _ _ _ h => h) (Or.inl ⟨by rfl, ?_⟩) hHeld ?_ ?_
            rotate_left
            · rintro w' ⟨s0, s1, s2⟩
              go_simp
              with_reducible rfl
            rotate_left
            · simp only [Act.put, List.setIfInBounds_toArray, List.set_cons_zero, List.set_cons_succ, i64_w, i32_w]
              rfl
            refine take_ (i := 4) (N := some 30) (v := ?_) (a' := ?_) #[true, true, true, true, true, true, false, false, false, false] rfl rfl (by kernel_rfl) (fun _ _ _ h => h) (Or.inl ⟨by rfl, ?_⟩) hHeld ?_ ?_
            rotate_left
            · rintro w' ⟨s0, s1, s2⟩
              go_simp
              with_reducible rfl
            rotate_left
            · simp only [Act.put, List.setIfInBounds_toArray, List.set_cons_zero, List.set_cons_succ, i64_w, i32_w]
              rfl
            refine pure_ (i := 6) (N := some 32) (v := ?_) (a' := ?_) #[true, true, true, true, true, true, true, false, false, false] rfl rfl (by kernel_rfl) (fun _ _ _ h => h) (Or.inl ⟨by rfl, ?_⟩) ?_ ?_
            rotate_left
            · intro w'
              go_simp
              with_reducible rfl
            rotate_left
            · simp only [Act.put, List.setIfInBounds_toArray, List.set_cons_zero, List.set_cons_succ, i64_w, i32_w]
              rfl
            refine take_ (i := 7) (N := some 33) (v := ?_) (a' := ?_) #[true, true, true, true, true, true, true, true, false, false] rfl rfl (by kernel_rfl) (fun _ _ _ h => h) (Or.inl ⟨by rfl, ?_⟩) hHeld ?_ ?_
            rotate_left
            · rintro w' ⟨s0, s1, s2⟩
              go_simp
              with_reducible rfl
            rotate_left
            · simp only [Act.put, List.setIfInBounds_toArray, List.set_cons_zero, List.set_cons_succ, i64_w, i32_w]
              rfl
            refine pure_ (i := 8) (N := some 34) (v := ?_) (a' := ?_) #[true, true, true, true, true, true, true, true, true, false] rfl rfl (by kernel_rfl) (fun _ _ _ h => h) (Or.inl ⟨by rfl, ?_⟩) ?_ ?_
            rotate_left
            · intro w'
              go_simp
              with_reducible rfl
            rotate_left
            · simp only [Act.put, List.setIfInBounds_toArray, List.set_cons_zero, List.set_cons_succ, i64_w, i32_w]
              rfl
            refine pure_ (i := 9) (N := some 35) (v := ?_) (a' := ?_) #[true, true, true, true, true, true, true, true, true, true] rfl rfl (by kernel_rfl) (fun _ _ _ h => h) (Or.inl ⟨by rfl, ?_⟩) ?_ ?_
            rotate_left
            · intro w'
              go_simp
              with_reducible rfl
            rotate_left
            · simp only [Act.put, List.setIfInBounds_toArray, List.set_cons_zero, List.set_cons_succ, i64_w, i32_w]
              rfl
            refine done_ (by kernel_rfl) ?_
            by_cases hz : Go.bits .andNot .u64 b.f1 (T v) = 0
            · have c2 : (Go.bits .andNot .u64 b.f1 (T v) != 0) = false := bne_eq_false_iff_eq.2 hz
              have h := H.out
              rw [HD.out, hz] at h
              have h2 : withinB T (l0.drop (i + 1)) = r := h
              replace h2 := Aside0.mk h2
              clear h H HD hz
              go_wp2
              go_roundw
              case rel => exact ⟨i + 1, by omega, by go_num, h2, HT, HW⟩
              case measure => simp [intOf]; omega
            · have c2 : (Go.bits .andNot .u64 b.f1 (T v) != 0) = true := bne_iff_ne.2 hz
              have h := H.out
              rw [HD.out, show (Go.bits .andNot .u64 b.f1 (T v) == 0) = false from beq_eq_false_iff_ne.2 hz, Bool.false_and] at h
              subst h
              clear H HD hz
              go_wp2
              go_ret
              exact ⟨rfl, HW.out⟩
          · obtain rfl : i = l0.length := by omega
            have h := H.out
            rw [List.drop_length] at h
            have h2 : true = r := h
            subst h2
            clear H h
            go_wp2
            go_ret
            exact ⟨rfl, HB5.out⟩
      · rw [if_neg hin] at h
        cases h


/-! ### counterfoillaw10_DirtyNames: function 6 -/
def counterfoillaw10_DirtyNames.j0 : Nat → List (S76) → Bool → Option (Bool)
  | 0, _, _ => none
  | k + 1, x1, x45 => if x45 = true then (some false) else ((dirty_All.f k x1).bind fun t335 => ((counterfoilref07_Right.f k x1).bind fun t338 => (if t338 = true then ((counterfoilref10_All.f k x1).bind fun t340 => ((counterfoilref10_Of.f k t340).bind fun bt343 => ((counterfoilref10_Equal.f k t335 bt343.1).bind fun t347 => (if t347 = true then ((dirty_Within.f k t335 x1).bind fun t348 => (if t348 = true then ((counterfoillaw10_awake.f).bind fun t349 => (some t349)) else (some false))) else (some false))))) else (if (t335.length : Int) = 0 then ((counterfoillaw10_awake.f).bind fun t339 => (some t339)) else (some false)))))
def counterfoillaw10_DirtyNames.f (k : Nat) (l0 : List (S60)) (l1 : List (S76)) : Option (Bool) := (counterfoilref07_Small.f k l1 l0).bind fun t321 => (if t321 = true then ((dirty_Of.f l0).bind fun bt323 => ((counterfoilref10_Names.f k l0).bind fun t327 => ((counterfoilref10_Of.f k t327).bind fun bt330 => ((counterfoilref10_Equal.f k bt323.1 bt330.1).bind fun t334 => (if t334 = true then (if ((bt323.2 == 0) != bt330.2) = true then (counterfoillaw10_DirtyNames.j0 k l1 true) else (if bt330.2 = true then (counterfoillaw10_DirtyNames.j0 k l1 false) else (counterfoillaw10_DirtyNames.j0 k l1 (bt323.2 != 10)))) else (counterfoillaw10_DirtyNames.j0 k l1 true)))))) else ((counterfoillaw10_awake.f).bind fun t322 => (some t322)))
theorem counterfoillaw10_DirtyNames.mono_l : ∀ k, (∀ y0 y1, LeO (counterfoillaw10_DirtyNames.j0 k y0 y1) (counterfoillaw10_DirtyNames.j0 (k + 1) y0 y1))
  | 0 => fun _ _ r h => by simp [counterfoillaw10_DirtyNames.j0] at h
  | k + 1 => by
    have ih0 := counterfoillaw10_DirtyNames.mono_l k
    · intro y0 y1
      unfold counterfoillaw10_DirtyNames.j0
      repeat' first
      | (with_reducible exact ih0 _ _)
      | (with_reducible exact counterfoilref07_Right.mono _ _)
      | (with_reducible exact counterfoilref07_Small.mono _ _ _)
      | (with_reducible exact counterfoilref10_All.mono _ _)
      | (with_reducible exact counterfoilref10_Equal.mono _ _ _)
      | (with_reducible exact counterfoilref10_Names.mono _ _)
      | (with_reducible exact counterfoilref10_Of.mono _ _)
      | (with_reducible exact dirty_All.mono _ _)
      | (with_reducible exact dirty_Within.mono _ _ _)
      | (with_reducible exact LeO.refl _)
      | (with_reducible exact LeO.none _)
      | (with_reducible refine LeO.ite ?_ ?_)
      | (with_reducible refine LeO.bind ?_ (fun _ => ?_))
      | exact ih0 _ _
      | exact counterfoilref07_Right.mono _ _
      | exact counterfoilref07_Small.mono _ _ _
      | exact counterfoilref10_All.mono _ _
      | exact counterfoilref10_Equal.mono _ _ _
      | exact counterfoilref10_Names.mono _ _
      | exact counterfoilref10_Of.mono _ _
      | exact dirty_All.mono _ _
      | exact dirty_Within.mono _ _ _
      | exact LeO.none _
      | refine LeO.ite ?_ ?_
      | refine LeO.bind ?_ (fun _ => ?_)
theorem counterfoillaw10_DirtyNames.mono : ∀ a0 a1 k, LeO (counterfoillaw10_DirtyNames.f k a0 a1) (counterfoillaw10_DirtyNames.f (k + 1) a0 a1) := by
  intro a0 a1 k
  have ih0 := counterfoillaw10_DirtyNames.mono_l k
  unfold counterfoillaw10_DirtyNames.f
  repeat' first
      | (with_reducible exact ih0 _ _)
      | (with_reducible exact counterfoilref07_Right.mono _ _)
      | (with_reducible exact counterfoilref07_Small.mono _ _ _)
      | (with_reducible exact counterfoilref10_All.mono _ _)
      | (with_reducible exact counterfoilref10_Equal.mono _ _ _)
      | (with_reducible exact counterfoilref10_Names.mono _ _)
      | (with_reducible exact counterfoilref10_Of.mono _ _)
      | (with_reducible exact dirty_All.mono _ _)
      | (with_reducible exact dirty_Within.mono _ _ _)
      | (with_reducible exact LeO.refl _)
      | (with_reducible exact LeO.none _)
      | (with_reducible refine LeO.ite ?_ ?_)
      | (with_reducible refine LeO.bind ?_ (fun _ => ?_))
      | exact ih0 _ _
      | exact counterfoilref07_Right.mono _ _
      | exact counterfoilref07_Small.mono _ _ _
      | exact counterfoilref10_All.mono _ _
      | exact counterfoilref10_Equal.mono _ _ _
      | exact counterfoilref10_Names.mono _ _
      | exact counterfoilref10_Of.mono _ _
      | exact dirty_All.mono _ _
      | exact dirty_Within.mono _ _ _
      | exact LeO.none _
      | refine LeO.ite ?_ ?_
      | refine LeO.bind ?_ (fun _ => ?_)
set_option maxHeartbeats 8000000 in
set_option maxRecDepth 100000 in
theorem counterfoillaw10_DirtyNames.calls (k : Nat) (A0 : Option Addr) (c0 : Nat) (l0 : List (S60)) (A1 : Option Addr) (c1 : Nat) (l1 : List (S76)) (r : Bool) (w : World) (hr0 : Kd.C k60 w A0 l0.length l0) (hc0 : l0.length ≤ c0) (hr1 : Kd.C k76 w A1 l1.length l1) (hc1 : l1.length ≤ c1) (hr_ : r = true) (h : counterfoillaw10_DirtyNames.f k l0 l1 = some r) :
    Calls Try.prog 6 #[.slice A0 l0.length c0, .slice A1 l1.length c1] w fun e w' => e = .returned (.bool r) ∧ Below w.heap.size w w' := by
  have HR0 := Aside0.mk hr0
  have HC0 := Aside0.mk hc0
  clear hr0 hc0
  have HR1 := Aside0.mk hr1
  have HC1 := Aside0.mk hc1
  clear hr1 hc1
  have HB := Aside0.mk (Below.refl w.heap.size w)
  have H : ((counterfoilref07_Small.f k l1 l0).bind fun t321 => (if t321 = true then ((dirty_Of.f l0).bind fun bt323 => ((counterfoilref10_Names.f k l0).bind fun t327 => ((counterfoilref10_Of.f k t327).bind fun bt330 => ((counterfoilref10_Equal.f k bt323.1 bt330.1).bind fun t334 => (if t334 = true then (if ((bt323.2 == 0) != bt330.2) = true then (counterfoillaw10_DirtyNames.j0 k l1 true) else (if bt330.2 = true then (counterfoillaw10_DirtyNames.j0 k l1 false) else (counterfoillaw10_DirtyNames.j0 k l1 (bt323.2 != 10)))) else (counterfoillaw10_DirtyNames.j0 k l1 true)))))) else ((counterfoillaw10_awake.f).bind fun t322 => (some t322)))) = some r := h
  clear h
  replace H := Option.bind_eq_some_iff.mp H
  obtain ⟨t321, A30, H⟩ := H
  replace H : (if t321 = true then ((dirty_Of.f l0).bind fun bt323 => ((counterfoilref10_Names.f k l0).bind fun t327 => ((counterfoilref10_Of.f k t327).bind fun bt330 => ((counterfoilref10_Equal.f k bt323.1 bt330.1).bind fun t334 => (if t334 = true then (if ((bt323.2 == 0) != bt330.2) = true then (counterfoillaw10_DirtyNames.j0 k l1 true) else (if bt330.2 = true then (counterfoillaw10_DirtyNames.j0 k l1 false) else (counterfoillaw10_DirtyNames.j0 k l1 (bt323.2 != 10)))) else (counterfoillaw10_DirtyNames.j0 k l1 true)))))) else ((counterfoillaw10_awake.f).bind fun t322 => (some t322))) = some r := H
  have A3 := Aside0.mk A30
  clear A30
  by_cases c4 : t321 = true
  · subst c4
    have H1 : ((dirty_Of.f l0).bind fun bt323 => ((counterfoilref10_Names.f k l0).bind fun t327 => ((counterfoilref10_Of.f k t327).bind fun bt330 => ((counterfoilref10_Equal.f k bt323.1 bt330.1).bind fun t334 => (if t334 = true then (if ((bt323.2 == 0) != bt330.2) = true then (counterfoillaw10_DirtyNames.j0 k l1 true) else (if bt330.2 = true then (counterfoillaw10_DirtyNames.j0 k l1 false) else (counterfoillaw10_DirtyNames.j0 k l1 (bt323.2 != 10)))) else (counterfoillaw10_DirtyNames.j0 k l1 true)))))) = some r := by rw [if_pos rfl] at H; exact H
    clear H
    have H := H1
    clear H1
    replace H := Option.bind_eq_some_iff.mp H
    obtain ⟨⟨t323, t324⟩, A50, H⟩ := H
    replace H : ((counterfoilref10_Names.f k l0).bind fun t327 => ((counterfoilref10_Of.f k t327).bind fun bt330 => ((counterfoilref10_Equal.f k t323 bt330.1).bind fun t334 => (if t334 = true then (if ((t324 == 0) != bt330.2) = true then (counterfoillaw10_DirtyNames.j0 k l1 true) else (if bt330.2 = true then (counterfoillaw10_DirtyNames.j0 k l1 false) else (counterfoillaw10_DirtyNames.j0 k l1 (t324 != 10)))) else (counterfoillaw10_DirtyNames.j0 k l1 true))))) = some r := H
    have A5 := Aside0.mk A50
    clear A50
    replace H := Option.bind_eq_some_iff.mp H
    obtain ⟨t327, A60, H⟩ := H
    replace H : ((counterfoilref10_Of.f k t327).bind fun bt330 => ((counterfoilref10_Equal.f k t323 bt330.1).bind fun t334 => (if t334 = true then (if ((t324 == 0) != bt330.2) = true then (counterfoillaw10_DirtyNames.j0 k l1 true) else (if bt330.2 = true then (counterfoillaw10_DirtyNames.j0 k l1 false) else (counterfoillaw10_DirtyNames.j0 k l1 (t324 != 10)))) else (counterfoillaw10_DirtyNames.j0 k l1 true)))) = some r := H
    have A6 := Aside0.mk A60
    clear A60
    replace H := Option.bind_eq_some_iff.mp H
    obtain ⟨⟨t330, t331⟩, A70, H⟩ := H
    replace H : ((counterfoilref10_Equal.f k t323 t330).bind fun t334 => (if t334 = true then (if ((t324 == 0) != t331) = true then (counterfoillaw10_DirtyNames.j0 k l1 true) else (if t331 = true then (counterfoillaw10_DirtyNames.j0 k l1 false) else (counterfoillaw10_DirtyNames.j0 k l1 (t324 != 10)))) else (counterfoillaw10_DirtyNames.j0 k l1 true))) = some r := H
    have A7 := Aside0.mk A70
    clear A70
    have HC8 := Aside0.mk H
    clear H
    go_enter Try.func6, Try.ntmps6
    go_upto_region 5 with (first | ((with_reducible refine gate_callee (f := 22) rfl ?_); refine goesL_ (some 14) rfl rfl Try.func22 (by kernel_rfl) rfl #[.slice A1 l1.length c1, .slice A0 l0.length c0] rfl (by (try simp only [List.map_toArray, List.map_cons, List.map_nil]); first | done | rfl | (simp only [List.length_drop, List.length_take]; rfl)) ?_; (with_reducible refine (counterfoilref07_Small.calls k _ _ l1 _ _ l0 true _ ?side1 ?side2 ?side3 ?side4 A3.out).mono ?_); (case side1 => repeat (first | exact HR1.out | (with_reducible refine Kd.C_alloc ?_ _) | (with_reducible refine Kd.C_drewN ?_ _) | (with_reducible refine Kd.C_drew ?_))); (case side2 => exact HC1.out); (case side3 => repeat (first | exact HR0.out | (with_reducible refine Kd.C_alloc ?_ _) | (with_reducible refine Kd.C_drewN ?_ _) | (with_reducible refine Kd.C_drew ?_))); (case side4 => exact HC0.out); rintro e w' ⟨rfl, ⟨nd, rfl⟩⟩; refine ⟨_, rfl, ?_⟩) | ((with_reducible refine gate_callee (f := 23) rfl ?_); refine goesL_ (some 19) rfl rfl Try.func23 (by kernel_rfl) rfl #[.slice A0 l0.length c0] rfl (by (try simp only [List.map_toArray, List.map_cons, List.map_nil]); first | done | rfl | (simp only [List.length_drop, List.length_take]; rfl)) ?_; (with_reducible refine (dirty_Of.calls _ _ l0 t323 t324 _ ?side1 ?side2 A5.out).mono ?_); (case side1 => repeat (first | exact HR0.out | (with_reducible refine Kd.C_alloc ?_ _) | (with_reducible refine Kd.C_drewN ?_ _) | (with_reducible refine Kd.C_drew ?_))); (case side2 => exact HC0.out); rintro e w9 ⟨v325, rfl, ho0, hb⟩; refine ⟨_, rfl, ?_⟩; have n0_ := Aside0.mk (Kd.R_lower ho0 (below_size (by repeat (first | (with_reducible first | exact HB.out | apply below_alloc | apply pw_below_drewN | apply below_drew1) | exact HB.out)))); have n1_ := Aside0.mk (below_step (by repeat (first | (with_reducible first | exact HB.out | apply below_alloc | apply pw_below_drewN | apply below_drew1) | exact HB.out)) hb); clear HB; have HO326 := n0_; have HB := n1_; clear n0_ n1_; (try clear hb); (try clear hb2); (try clear hk); (try clear hi); (try clear ho0)) | ((with_reducible refine gate_callee (f := 24) rfl ?_); refine goesL_ (some 24) rfl rfl Try.func24 (by kernel_rfl) rfl #[.slice A0 l0.length c0] rfl (by (try simp only [List.map_toArray, List.map_cons, List.map_nil]); first | done | rfl | (simp only [List.length_drop, List.length_take]; rfl)) ?_; (with_reducible refine (counterfoilref10_Names.calls k _ _ l0 t327 _ ?side1 ?side2 A6.out).mono ?_); (case side1 => repeat (first | exact (Kd.C_below HR0.out HB.out) | (with_reducible refine Kd.C_alloc ?_ _) | (with_reducible refine Kd.C_drewN ?_ _) | (with_reducible refine Kd.C_drew ?_))); (case side2 => exact HC0.out); rintro e w10 ⟨v328, rfl, ho0, hb⟩; refine ⟨_, rfl, ?_⟩; have n0_ := Aside0.mk (Kd.R_below (by (with_reducible repeat (first | apply Kd.R_alloc | apply Kd.R_drewN | apply Kd.R_drew)); exact HO326.out) hb); have n1_ := Aside0.mk (Kd.R_lower ho0 (below_size (by repeat (first | (with_reducible first | exact HB.out | apply below_alloc | apply pw_below_drewN | apply below_drew1) | exact HB.out)))); have n2_ := Aside0.mk (below_step (by repeat (first | (with_reducible first | exact HB.out | apply below_alloc | apply pw_below_drewN | apply below_drew1) | exact HB.out)) hb); clear HO326; clear HB; have HO326 := n0_; have HO329 := n1_; have HB := n2_; clear n0_ n1_ n2_; (try clear hb); (try clear hb2); (try clear hk); (try clear hi); (try clear ho0); obtain ⟨Ao11, co11, eo11⟩ := Kd.R_slice HO329.out; subst eo11) | ((with_reducible refine gate_callee (f := 18) rfl ?_); refine goesL_ (some 25) rfl rfl Try.func18 (by kernel_rfl) rfl #[.slice Ao11 t327.length co11] rfl (by (try simp only [List.map_toArray, List.map_cons, List.map_nil]); first | done | rfl | (simp only [List.length_drop, List.length_take]; rfl)) ?_; (with_reducible refine (counterfoilref10_Of.calls k _ _ t327 t330 t331 _ ?side1 ?side2 A7.out).mono ?_); (case side1 => repeat (first | exact (Kd.R_reads' HO329.out).2.2 | (with_reducible refine Kd.C_alloc ?_ _) | (with_reducible refine Kd.C_drewN ?_ _) | (with_reducible refine Kd.C_drew ?_))); (case side2 => exact (Kd.R_reads' HO329.out).2.1); rintro e w12 ⟨v332, rfl, ho0, hb⟩; refine ⟨_, rfl, ?_⟩; have n0_ := Aside0.mk (Kd.R_elder' (by (with_reducible repeat (first | apply Kd.R_alloc | apply Kd.R_drewN | apply Kd.R_drew)); exact HO326.out) (Kd.R_base ho0) hb); have n1_ := Aside0.mk (Kd.R_below (by (with_reducible repeat (first | apply Kd.R_alloc | apply Kd.R_drewN | apply Kd.R_drew)); exact HO329.out) hb); have n2_ := Aside0.mk (Kd.R_lower (Kd.R_new' ho0 (Kd.R_lt (by (with_reducible repeat (first | apply Kd.R_alloc | apply Kd.R_drewN | apply Kd.R_drew)); exact HO326.out))) (below_size (by repeat (first | (with_reducible first | exact HB.out | apply below_alloc | apply pw_below_drewN | apply below_drew1) | exact HB.out)))); have n3_ := Aside0.mk (below_step (by repeat (first | (with_reducible first | exact HB.out | apply below_alloc | apply pw_below_drewN | apply below_drew1) | exact HB.out)) hb); clear HO326; clear HO329; clear HB; have HO326 := n0_; have HO329 := n1_; have HO333 := n2_; have HB := n3_; clear n0_ n1_ n2_ n3_; (try clear hb); (try clear hb2); (try clear hk); (try clear hi); (try clear ho0)))
    (try simp only [Act.put, List.setIfInBounds_toArray, List.set_cons_zero, List.set_cons_succ])
    go_cut [45] (fun v45 wc => ∃ (kq : Nat) (x45_7 : Bool), v45 = .bool x45_7 ∧ Aside0 (counterfoillaw10_DirtyNames.j0 kq l1 x45_7 = some r) ∧ Aside0 (kq ≤ k) ∧ Aside0 (Below w.heap.size w wc))
    case first =>
      have H := HC8.out
      clear HC8
      replace H := Option.bind_eq_some_iff.mp H
      obtain ⟨t334, A130, H⟩ := H
      replace H : (if t334 = true then (if ((t324 == 0) != t331) = true then (counterfoillaw10_DirtyNames.j0 k l1 true) else (if t331 = true then (counterfoillaw10_DirtyNames.j0 k l1 false) else (counterfoillaw10_DirtyNames.j0 k l1 (t324 != 10)))) else (counterfoillaw10_DirtyNames.j0 k l1 true)) = some r := H
      have A13 := Aside0.mk A130
      clear A130
      by_cases c14 : t334 = true
      · subst c14
        have H1 : (if ((t324 == 0) != t331) = true then (counterfoillaw10_DirtyNames.j0 k l1 true) else (if t331 = true then (counterfoillaw10_DirtyNames.j0 k l1 false) else (counterfoillaw10_DirtyNames.j0 k l1 (t324 != 10)))) = some r := by rw [if_pos rfl] at H; exact H
        clear H
        have H := H1
        clear H1
        by_cases c15 : ((t324 == 0) != t331) = true
        · rw [if_pos c15] at H
          have c15b0 : ((t324 == 0) != t331) = true := c15
          (try (have c15b1 : decide ((t324 == 0) = t331) = false := by simpa using c15))
          (try (have c15b2 : ((t324 == 0) == t331) = false := by simpa using c15))
          (try (have c15b3 : ¬ ((t324 == 0) = t331) := by simpa using c15))
          clear c15
          (first | rw [c15b0] | (simp only [i64_w, i32_w]; rw [c15b0]) | skip)
          have H' := Aside0.mk H
          clear H
          obtain ⟨Ao16, co16, eo16⟩ := Kd.R_slice HO326.out
          subst eo16
          obtain ⟨Ao17, co17, eo17⟩ := Kd.R_slice HO333.out
          subst eo17
          go_wp2_with (first | ((with_reducible refine gate_callee (f := 12) rfl ?_); refine goesL_ (some 30) rfl rfl Try.func12 (by kernel_rfl) rfl #[.slice Ao16 t323.length co16, .slice Ao17 t330.length co17] rfl (by (try simp only [List.map_toArray, List.map_cons, List.map_nil]); first | done | rfl | (simp only [List.length_drop, List.length_take]; rfl)) ?_; (with_reducible refine (counterfoilref10_Equal.calls k _ _ t323 _ _ t330 true _ ?side1 ?side2 ?side3 ?side4 A13.out).mono ?_); (case side1 => repeat (first | exact (Kd.R_reads' HO326.out).2.2 | (with_reducible refine Kd.C_alloc ?_ _) | (with_reducible refine Kd.C_drewN ?_ _) | (with_reducible refine Kd.C_drew ?_))); (case side2 => exact (Kd.R_reads' HO326.out).2.1); (case side3 => repeat (first | exact (Kd.R_reads' HO333.out).2.2 | (with_reducible refine Kd.C_alloc ?_ _) | (with_reducible refine Kd.C_drewN ?_ _) | (with_reducible refine Kd.C_drew ?_))); (case side4 => exact (Kd.R_reads' HO333.out).2.1); rintro e w' ⟨rfl, ⟨nd, rfl⟩⟩; refine ⟨_, rfl, ?_⟩))
          go_meet
          case rel => exact ⟨_, (true), (by first | rfl | (simp; done) | (simp [*]; done)), H', ⟨by first | omega | exact Nat.le_refl _⟩, ⟨by repeat (first | (with_reducible first | exact HB.out | apply below_alloc | apply pw_below_drewN | apply below_drew1) | exact HB.out)⟩⟩
        · rw [if_neg c15] at H
          have c15b0 : ((t324 == 0) != t331) = false := by simpa using c15
          (try (have c15b1 : decide ((t324 == 0) = t331) = true := by simpa using c15))
          (try (have c15b2 : ((t324 == 0) == t331) = true := by simpa using c15))
          clear c15
          (first | rw [c15b0] | (simp only [i64_w, i32_w]; rw [c15b0]) | skip)
          by_cases c18 : t331 = true
          · subst c18
            have H1 : (counterfoillaw10_DirtyNames.j0 k l1 false) = some r := by rw [if_pos rfl] at H; exact H
            clear H
            have H := H1
            clear H1
            have H' := Aside0.mk H
            clear H
            obtain ⟨Ao19, co19, eo19⟩ := Kd.R_slice HO326.out
            subst eo19
            obtain ⟨Ao20, co20, eo20⟩ := Kd.R_slice HO333.out
            subst eo20
            go_wp2_with (first | ((with_reducible refine gate_callee (f := 12) rfl ?_); refine goesL_ (some 30) rfl rfl Try.func12 (by kernel_rfl) rfl #[.slice Ao19 t323.length co19, .slice Ao20 t330.length co20] rfl (by (try simp only [List.map_toArray, List.map_cons, List.map_nil]); first | done | rfl | (simp only [List.length_drop, List.length_take]; rfl)) ?_; (with_reducible refine (counterfoilref10_Equal.calls k _ _ t323 _ _ t330 true _ ?side1 ?side2 ?side3 ?side4 A13.out).mono ?_); (case side1 => repeat (first | exact (Kd.R_reads' HO326.out).2.2 | (with_reducible refine Kd.C_alloc ?_ _) | (with_reducible refine Kd.C_drewN ?_ _) | (with_reducible refine Kd.C_drew ?_))); (case side2 => exact (Kd.R_reads' HO326.out).2.1); (case side3 => repeat (first | exact (Kd.R_reads' HO333.out).2.2 | (with_reducible refine Kd.C_alloc ?_ _) | (with_reducible refine Kd.C_drewN ?_ _) | (with_reducible refine Kd.C_drew ?_))); (case side4 => exact (Kd.R_reads' HO333.out).2.1); rintro e w' ⟨rfl, ⟨nd, rfl⟩⟩; refine ⟨_, rfl, ?_⟩))
            go_meet
            case rel => exact ⟨_, (false), (by first | rfl | (simp; done) | (simp [*]; done)), H', ⟨by first | omega | exact Nat.le_refl _⟩, ⟨by repeat (first | (with_reducible first | exact HB.out | apply below_alloc | apply pw_below_drewN | apply below_drew1) | exact HB.out)⟩⟩
          · replace c18 := Bool.eq_false_iff.mpr c18
            subst c18
            have H1 : (counterfoillaw10_DirtyNames.j0 k l1 (t324 != 10)) = some r := by rw [if_neg (show ¬ (false = true) by decide)] at H; exact H
            clear H
            have H := H1
            clear H1
            have H' := Aside0.mk H
            clear H
            obtain ⟨Ao21, co21, eo21⟩ := Kd.R_slice HO326.out
            subst eo21
            obtain ⟨Ao22, co22, eo22⟩ := Kd.R_slice HO333.out
            subst eo22
            go_wp2_with (first | ((with_reducible refine gate_callee (f := 12) rfl ?_); refine goesL_ (some 30) rfl rfl Try.func12 (by kernel_rfl) rfl #[.slice Ao21 t323.length co21, .slice Ao22 t330.length co22] rfl (by (try simp only [List.map_toArray, List.map_cons, List.map_nil]); first | done | rfl | (simp only [List.length_drop, List.length_take]; rfl)) ?_; (with_reducible refine (counterfoilref10_Equal.calls k _ _ t323 _ _ t330 true _ ?side1 ?side2 ?side3 ?side4 A13.out).mono ?_); (case side1 => repeat (first | exact (Kd.R_reads' HO326.out).2.2 | (with_reducible refine Kd.C_alloc ?_ _) | (with_reducible refine Kd.C_drewN ?_ _) | (with_reducible refine Kd.C_drew ?_))); (case side2 => exact (Kd.R_reads' HO326.out).2.1); (case side3 => repeat (first | exact (Kd.R_reads' HO333.out).2.2 | (with_reducible refine Kd.C_alloc ?_ _) | (with_reducible refine Kd.C_drewN ?_ _) | (with_reducible refine Kd.C_drew ?_))); (case side4 => exact (Kd.R_reads' HO333.out).2.1); rintro e w' ⟨rfl, ⟨nd, rfl⟩⟩; refine ⟨_, rfl, ?_⟩))
            go_meet
            case rel => exact ⟨_, ((t324 != 10)), (by first | rfl | (simp; done) | (simp [*]; done)), H', ⟨by first | omega | exact Nat.le_refl _⟩, ⟨by repeat (first | (with_reducible first | exact HB.out | apply below_alloc | apply pw_below_drewN | apply below_drew1) | exact HB.out)⟩⟩
      · replace c14 := Bool.eq_false_iff.mpr c14
        subst c14
        have H1 : (counterfoillaw10_DirtyNames.j0 k l1 true) = some r := by rw [if_neg (show ¬ (false = true) by decide)] at H; exact H
        clear H
        have H := H1
        clear H1
        have H' := Aside0.mk H
        clear H
        obtain ⟨Ao23, co23, eo23⟩ := Kd.R_slice HO326.out
        subst eo23
        obtain ⟨Ao24, co24, eo24⟩ := Kd.R_slice HO333.out
        subst eo24
        go_wp2_with (first | ((with_reducible refine gate_callee (f := 12) rfl ?_); refine goesL_ (some 30) rfl rfl Try.func12 (by kernel_rfl) rfl #[.slice Ao23 t323.length co23, .slice Ao24 t330.length co24] rfl (by (try simp only [List.map_toArray, List.map_cons, List.map_nil]); first | done | rfl | (simp only [List.length_drop, List.length_take]; rfl)) ?_; (with_reducible refine (counterfoilref10_Equal.calls k _ _ t323 _ _ t330 false _ ?side1 ?side2 ?side3 ?side4 A13.out).mono ?_); (case side1 => repeat (first | exact (Kd.R_reads' HO326.out).2.2 | (with_reducible refine Kd.C_alloc ?_ _) | (with_reducible refine Kd.C_drewN ?_ _) | (with_reducible refine Kd.C_drew ?_))); (case side2 => exact (Kd.R_reads' HO326.out).2.1); (case side3 => repeat (first | exact (Kd.R_reads' HO333.out).2.2 | (with_reducible refine Kd.C_alloc ?_ _) | (with_reducible refine Kd.C_drewN ?_ _) | (with_reducible refine Kd.C_drew ?_))); (case side4 => exact (Kd.R_reads' HO333.out).2.1); rintro e w' ⟨rfl, ⟨nd, rfl⟩⟩; refine ⟨_, rfl, ?_⟩))
        go_meet
        case rel => exact ⟨_, (true), (by first | rfl | (simp; done) | (simp [*]; done)), H', ⟨by first | omega | exact Nat.le_refl _⟩, ⟨by repeat (first | (with_reducible first | exact HB.out | apply below_alloc | apply pw_below_drewN | apply below_drew1) | exact HB.out)⟩⟩
    case rest =>
      clear HC8
      try clear c1
      try clear c2
      try clear p2
      try clear c4
      try clear c6
      try clear c12
      try clear c14
      try clear c15
      try clear c15b0
      try clear c15b1
      try clear c15b2
      try clear c18
      try clear c22
      try clear c23
      try clear c24
      obtain ⟨kq, x45_7, rfl, HA, HJ7, HB⟩ := hcut
      cases kq with
      | zero => exact absurd HA.out (by simp [counterfoillaw10_DirtyNames.j0])
      | succ kj7 =>
        have H := HA.out
        clear HA
        simp only [counterfoillaw10_DirtyNames.j0] at H
        by_cases c25 : x45_7 = true
        · subst c25
          have H1 : (some false) = some r := by rw [if_pos rfl] at H; exact H
          clear H
          have H := H1
          clear H1
          exact absurd H (by simp [hr_])
        · replace c25 := Bool.eq_false_iff.mpr c25
          subst c25
          have H1 : ((dirty_All.f kj7 l1).bind fun t335 => ((counterfoilref07_Right.f kj7 l1).bind fun t338 => (if t338 = true then ((counterfoilref10_All.f kj7 l1).bind fun t340 => ((counterfoilref10_Of.f kj7 t340).bind fun bt343 => ((counterfoilref10_Equal.f kj7 t335 bt343.1).bind fun t347 => (if t347 = true then ((dirty_Within.f kj7 t335 l1).bind fun t348 => (if t348 = true then ((counterfoillaw10_awake.f).bind fun t349 => (some t349)) else (some false))) else (some false))))) else (if (t335.length : Int) = 0 then ((counterfoillaw10_awake.f).bind fun t339 => (some t339)) else (some false))))) = some r := by rw [if_neg (show ¬ (false = true) by decide)] at H; exact H
          clear H
          have H := H1
          clear H1
          replace H := Option.bind_eq_some_iff.mp H
          obtain ⟨t335, A260, H⟩ := H
          replace H : ((counterfoilref07_Right.f kj7 l1).bind fun t338 => (if t338 = true then ((counterfoilref10_All.f kj7 l1).bind fun t340 => ((counterfoilref10_Of.f kj7 t340).bind fun bt343 => ((counterfoilref10_Equal.f kj7 t335 bt343.1).bind fun t347 => (if t347 = true then ((dirty_Within.f kj7 t335 l1).bind fun t348 => (if t348 = true then ((counterfoillaw10_awake.f).bind fun t349 => (some t349)) else (some false))) else (some false))))) else (if (t335.length : Int) = 0 then ((counterfoillaw10_awake.f).bind fun t339 => (some t339)) else (some false)))) = some r := H
          have A26 := Aside0.mk A260
          clear A260
          replace H := Option.bind_eq_some_iff.mp H
          obtain ⟨t338, A270, H⟩ := H
          replace H : (if t338 = true then ((counterfoilref10_All.f kj7 l1).bind fun t340 => ((counterfoilref10_Of.f kj7 t340).bind fun bt343 => ((counterfoilref10_Equal.f kj7 t335 bt343.1).bind fun t347 => (if t347 = true then ((dirty_Within.f kj7 t335 l1).bind fun t348 => (if t348 = true then ((counterfoillaw10_awake.f).bind fun t349 => (some t349)) else (some false))) else (some false))))) else (if (t335.length : Int) = 0 then ((counterfoillaw10_awake.f).bind fun t339 => (some t339)) else (some false))) = some r := H
          have A27 := Aside0.mk A270
          clear A270
          by_cases c28 : t338 = true
          · subst c28
            have H1 : ((counterfoilref10_All.f kj7 l1).bind fun t340 => ((counterfoilref10_Of.f kj7 t340).bind fun bt343 => ((counterfoilref10_Equal.f kj7 t335 bt343.1).bind fun t347 => (if t347 = true then ((dirty_Within.f kj7 t335 l1).bind fun t348 => (if t348 = true then ((counterfoillaw10_awake.f).bind fun t349 => (some t349)) else (some false))) else (some false))))) = some r := by rw [if_pos rfl] at H; exact H
            clear H
            have H := H1
            clear H1
            replace H := Option.bind_eq_some_iff.mp H
            obtain ⟨t340, A290, H⟩ := H
            replace H : ((counterfoilref10_Of.f kj7 t340).bind fun bt343 => ((counterfoilref10_Equal.f kj7 t335 bt343.1).bind fun t347 => (if t347 = true then ((dirty_Within.f kj7 t335 l1).bind fun t348 => (if t348 = true then ((counterfoillaw10_awake.f).bind fun t349 => (some t349)) else (some false))) else (some false)))) = some r := H
            have A29 := Aside0.mk A290
            clear A290
            replace H := Option.bind_eq_some_iff.mp H
            obtain ⟨⟨t343, t344⟩, A300, H⟩ := H
            replace H : ((counterfoilref10_Equal.f kj7 t335 t343).bind fun t347 => (if t347 = true then ((dirty_Within.f kj7 t335 l1).bind fun t348 => (if t348 = true then ((counterfoillaw10_awake.f).bind fun t349 => (some t349)) else (some false))) else (some false))) = some r := H
            have A30 := Aside0.mk A300
            clear A300
            replace H := Option.bind_eq_some_iff.mp H
            obtain ⟨t347, A310, H⟩ := H
            replace H : (if t347 = true then ((dirty_Within.f kj7 t335 l1).bind fun t348 => (if t348 = true then ((counterfoillaw10_awake.f).bind fun t349 => (some t349)) else (some false))) else (some false)) = some r := H
            have A31 := Aside0.mk A310
            clear A310
            by_cases c32 : t347 = true
            · subst c32
              have H1 : ((dirty_Within.f kj7 t335 l1).bind fun t348 => (if t348 = true then ((counterfoillaw10_awake.f).bind fun t349 => (some t349)) else (some false))) = some r := by rw [if_pos rfl] at H; exact H
              clear H
              have H := H1
              clear H1
              replace H := Option.bind_eq_some_iff.mp H
              obtain ⟨t348, A330, H⟩ := H
              replace H : (if t348 = true then ((counterfoillaw10_awake.f).bind fun t349 => (some t349)) else (some false)) = some r := H
              have A33 := Aside0.mk A330
              clear A330
              by_cases c34 : t348 = true
              · subst c34
                have H1 : ((counterfoillaw10_awake.f).bind fun t349 => (some t349)) = some r := by rw [if_pos rfl] at H; exact H
                clear H
                have H := H1
                clear H1
                replace H := Option.bind_eq_some_iff.mp H
                obtain ⟨t349, A350, H⟩ := H
                replace H : (some t349) = some r := H
                have A35 := Aside0.mk A350
                clear A350
                obtain rfl := Option.some.inj H
                go_wp2_with (first | ((with_reducible refine gate_callee (f := 25) rfl ?_); refine goesL_ (some 47) rfl rfl Try.func25 (by kernel_rfl) rfl #[.slice A1 l1.length c1] rfl (by (try simp only [List.map_toArray, List.map_cons, List.map_nil]); first | done | rfl | (simp only [List.length_drop, List.length_take]; rfl)) ?_; (with_reducible refine (dirty_All.calls kj7 _ _ l1 t335 _ ?side1 ?side2 A26.out).mono ?_); (case side1 => repeat (first | exact (Kd.C_below HR1.out HB.out) | (with_reducible refine Kd.C_alloc ?_ _) | (with_reducible refine Kd.C_drewN ?_ _) | (with_reducible refine Kd.C_drew ?_))); (case side2 => exact HC1.out); rintro e w36 ⟨v336, rfl, ho0, hb⟩; refine ⟨_, rfl, ?_⟩; have n0_ := Aside0.mk (Kd.R_lower ho0 (below_size (by repeat (first | (with_reducible first | exact HB.out | apply below_alloc | apply pw_below_drewN | apply below_drew1) | exact HB.out)))); have n1_ := Aside0.mk (below_step (by repeat (first | (with_reducible first | exact HB.out | apply below_alloc | apply pw_below_drewN | apply below_drew1) | exact HB.out)) hb); clear HB; have HO337 := n0_; have HB := n1_; clear n0_ n1_; (try clear hb); (try clear hb2); (try clear hk); (try clear hi); (try clear ho0)) | ((with_reducible refine gate_callee (f := 26) rfl ?_); refine goesL_ (some 49) rfl rfl Try.func26 (by kernel_rfl) rfl #[.slice A1 l1.length c1] rfl (by (try simp only [List.map_toArray, List.map_cons, List.map_nil]); first | done | rfl | (simp only [List.length_drop, List.length_take]; rfl)) ?_; (with_reducible refine (counterfoilref07_Right.calls kj7 _ _ l1 true _ ?side1 ?side2 A27.out).mono ?_); (case side1 => repeat (first | exact (Kd.C_below HR1.out HB.out) | (with_reducible refine Kd.C_alloc ?_ _) | (with_reducible refine Kd.C_drewN ?_ _) | (with_reducible refine Kd.C_drew ?_))); (case side2 => exact HC1.out); rintro e w' ⟨rfl, ⟨nd, rfl⟩⟩; refine ⟨_, rfl, ?_⟩) | ((with_reducible refine gate_callee (f := 27) rfl ?_); refine goesL_ (some 59) rfl rfl Try.func27 (by kernel_rfl) rfl #[.slice A1 l1.length c1] rfl (by (try simp only [List.map_toArray, List.map_cons, List.map_nil]); first | done | rfl | (simp only [List.length_drop, List.length_take]; rfl)) ?_; (with_reducible refine (counterfoilref10_All.calls kj7 _ _ l1 t340 _ ?side1 ?side2 A29.out).mono ?_); (case side1 => repeat (first | exact (Kd.C_below HR1.out (by repeat (first | (with_reducible first | exact HB.out | apply below_alloc | apply pw_below_drewN | apply below_drew1) | exact HB.out))) | (with_reducible refine Kd.C_alloc ?_ _) | (with_reducible refine Kd.C_drewN ?_ _) | (with_reducible refine Kd.C_drew ?_))); (case side2 => exact HC1.out); rintro e w37 ⟨v341, rfl, ho0, hb⟩; refine ⟨_, rfl, ?_⟩; have n0_ := Aside0.mk (Kd.R_below (by (with_reducible repeat (first | apply Kd.R_alloc | apply Kd.R_drewN | apply Kd.R_drew)); exact HO337.out) hb); have n1_ := Aside0.mk (Kd.R_lower ho0 (below_size (by repeat (first | (with_reducible first | exact HB.out | apply below_alloc | apply pw_below_drewN | apply below_drew1) | exact HB.out)))); have n2_ := Aside0.mk (below_step (by repeat (first | (with_reducible first | exact HB.out | apply below_alloc | apply pw_below_drewN | apply below_drew1) | exact HB.out)) hb); clear HO337; clear HB; have HO337 := n0_; have HO342 := n1_; have HB := n2_; clear n0_ n1_ n2_; (try clear hb); (try clear hb2); (try clear hk); (try clear hi); (try clear ho0); obtain ⟨Ao38, co38, eo38⟩ := Kd.R_slice HO342.out; subst eo38) | ((with_reducible refine gate_callee (f := 18) rfl ?_); refine goesL_ (some 60) rfl rfl Try.func18 (by kernel_rfl) rfl #[.slice Ao38 t340.length co38] rfl (by (try simp only [List.map_toArray, List.map_cons, List.map_nil]); first | done | rfl | (simp only [List.length_drop, List.length_take]; rfl)) ?_; (with_reducible refine (counterfoilref10_Of.calls kj7 _ _ t340 t343 t344 _ ?side1 ?side2 A30.out).mono ?_); (case side1 => repeat (first | exact (Kd.R_reads' HO342.out).2.2 | (with_reducible refine Kd.C_alloc ?_ _) | (with_reducible refine Kd.C_drewN ?_ _) | (with_reducible refine Kd.C_drew ?_))); (case side2 => exact (Kd.R_reads' HO342.out).2.1); rintro e w39 ⟨v345, rfl, ho0, hb⟩; refine ⟨_, rfl, ?_⟩; have n0_ := Aside0.mk (Kd.R_elder' (by (with_reducible repeat (first | apply Kd.R_alloc | apply Kd.R_drewN | apply Kd.R_drew)); exact HO337.out) (Kd.R_base ho0) hb); have n1_ := Aside0.mk (Kd.R_below (by (with_reducible repeat (first | apply Kd.R_alloc | apply Kd.R_drewN | apply Kd.R_drew)); exact HO342.out) hb); have n2_ := Aside0.mk (Kd.R_lower (Kd.R_new' ho0 (Kd.R_lt (by (with_reducible repeat (first | apply Kd.R_alloc | apply Kd.R_drewN | apply Kd.R_drew)); exact HO337.out))) (below_size (by repeat (first | (with_reducible first | exact HB.out | apply below_alloc | apply pw_below_drewN | apply below_drew1) | exact HB.out)))); have n3_ := Aside0.mk (below_step (by repeat (first | (with_reducible first | exact HB.out | apply below_alloc | apply pw_below_drewN | apply below_drew1) | exact HB.out)) hb); clear HO337; clear HO342; clear HB; have HO337 := n0_; have HO342 := n1_; have HO346 := n2_; have HB := n3_; clear n0_ n1_ n2_ n3_; (try clear hb); (try clear hb2); (try clear hk); (try clear hi); (try clear ho0); obtain ⟨Ao40, co40, eo40⟩ := Kd.R_slice HO337.out; subst eo40; obtain ⟨Ao41, co41, eo41⟩ := Kd.R_slice HO346.out; subst eo41) | ((with_reducible refine gate_callee (f := 12) rfl ?_); refine goesL_ (some 65) rfl rfl Try.func12 (by kernel_rfl) rfl #[.slice Ao40 t335.length co40, .slice Ao41 t343.length co41] rfl (by (try simp only [List.map_toArray, List.map_cons, List.map_nil]); first | done | rfl | (simp only [List.length_drop, List.length_take]; rfl)) ?_; (with_reducible refine (counterfoilref10_Equal.calls kj7 _ _ t335 _ _ t343 true _ ?side1 ?side2 ?side3 ?side4 A31.out).mono ?_); (case side1 => repeat (first | exact (Kd.R_reads' HO337.out).2.2 | (with_reducible refine Kd.C_alloc ?_ _) | (with_reducible refine Kd.C_drewN ?_ _) | (with_reducible refine Kd.C_drew ?_))); (case side2 => exact (Kd.R_reads' HO337.out).2.1); (case side3 => repeat (first | exact (Kd.R_reads' HO346.out).2.2 | (with_reducible refine Kd.C_alloc ?_ _) | (with_reducible refine Kd.C_drewN ?_ _) | (with_reducible refine Kd.C_drew ?_))); (case side4 => exact (Kd.R_reads' HO346.out).2.1); rintro e w' ⟨rfl, ⟨nd, rfl⟩⟩; refine ⟨_, rfl, ?_⟩) | (go_at_call 28; (with_reducible refine (dirty_Within.calls kj7 _ _ t335 _ _ l1 true _ ?side1 ?side2 ?side3 ?side4 A33.out).mono ?_); (case side1 => repeat (first | exact (Kd.R_reads' HO337.out).2.2 | (with_reducible refine Kd.C_alloc ?_ _) | (with_reducible refine Kd.C_drewN ?_ _) | (with_reducible refine Kd.C_drew ?_))); (case side2 => exact (Kd.R_reads' HO337.out).2.1); (case side3 => repeat (first | exact (Kd.C_below HR1.out (by repeat (first | (with_reducible first | exact HB.out | apply below_alloc | apply pw_below_drewN | apply below_drew1) | exact HB.out))) | (with_reducible refine Kd.C_alloc ?_ _) | (with_reducible refine Kd.C_drewN ?_ _) | (with_reducible refine Kd.C_drew ?_))); (case side4 => exact HC1.out); rintro e w42 ⟨rfl, hb⟩; have n0_ := Aside0.mk (Kd.R_below (by (with_reducible repeat (first | apply Kd.R_alloc | apply Kd.R_drewN | apply Kd.R_drew)); exact HO337.out) hb); have n1_ := Aside0.mk (Kd.R_below (by (with_reducible repeat (first | apply Kd.R_alloc | apply Kd.R_drewN | apply Kd.R_drew)); exact HO342.out) hb); have n2_ := Aside0.mk (Kd.R_below (by (with_reducible repeat (first | apply Kd.R_alloc | apply Kd.R_drewN | apply Kd.R_drew)); exact HO346.out) hb); have n3_ := Aside0.mk (below_step (by repeat (first | (with_reducible first | exact HB.out | apply below_alloc | apply pw_below_drewN | apply below_drew1) | exact HB.out)) hb); clear HO337; clear HO342; clear HO346; clear HB; have HO337 := n0_; have HO342 := n1_; have HO346 := n2_; have HB := n3_; clear n0_ n1_ n2_ n3_; (try clear hb); (try clear hb2); (try clear hk); (try clear hi)) | (go_at_call 9; (with_reducible refine (counterfoillaw10_awake.calls  t349 _ A35.out).mono ?_); rintro e w43 ⟨rfl, hb⟩; have n0_ := Aside0.mk (Kd.R_below (by (with_reducible repeat (first | apply Kd.R_alloc | apply Kd.R_drewN | apply Kd.R_drew)); exact HO337.out) hb); have n1_ := Aside0.mk (Kd.R_below (by (with_reducible repeat (first | apply Kd.R_alloc | apply Kd.R_drewN | apply Kd.R_drew)); exact HO342.out) hb); have n2_ := Aside0.mk (Kd.R_below (by (with_reducible repeat (first | apply Kd.R_alloc | apply Kd.R_drewN | apply Kd.R_drew)); exact HO346.out) hb); have n3_ := Aside0.mk (below_step (by repeat (first | (with_reducible first | exact HB.out | apply below_alloc | apply pw_below_drewN | apply below_drew1) | exact HB.out)) hb); clear HO337; clear HO342; clear HO346; clear HB; have HO337 := n0_; have HO342 := n1_; have HO346 := n2_; have HB := n3_; clear n0_ n1_ n2_ n3_; (try clear hb); (try clear hb2); (try clear hk); (try clear hi)))
                go_ret
                exact ⟨by first | rfl | (simp [errW_none, errW_some] <;> rfl) | (simp [*, errW_none, errW_some] <;> rfl), by repeat (first | (with_reducible first | exact HB.out | apply below_alloc | apply pw_below_drewN | apply below_drew1) | exact HB.out)⟩
              · replace c34 := Bool.eq_false_iff.mpr c34
                subst c34
                have H1 : (some false) = some r := by rw [if_neg (show ¬ (false = true) by decide)] at H; exact H
                clear H
                have H := H1
                clear H1
                exact absurd H (by simp [hr_])
            · replace c32 := Bool.eq_false_iff.mpr c32
              subst c32
              have H1 : (some false) = some r := by rw [if_neg (show ¬ (false = true) by decide)] at H; exact H
              clear H
              have H := H1
              clear H1
              exact absurd H (by simp [hr_])
          · replace c28 := Bool.eq_false_iff.mpr c28
            subst c28
            have H1 : (if (t335.length : Int) = 0 then ((counterfoillaw10_awake.f).bind fun t339 => (some t339)) else (some false)) = some r := by rw [if_neg (show ¬ (false = true) by decide)] at H; exact H
            clear H
            have H := H1
            clear H1
            by_cases c44 : (t335.length : Int) = 0
            · rw [if_pos c44] at H
              have c44b0 : ((t335.length : Int) == 0) = true := beq_iff_eq.mpr c44
              have c44b1 : ((t335.length : Int) != 0) = false := bne_eq_false_iff_eq.mpr c44
              clear c44
              replace H := Option.bind_eq_some_iff.mp H
              obtain ⟨t339, A450, H⟩ := H
              replace H : (some t339) = some r := H
              have A45 := Aside0.mk A450
              clear A450
              obtain rfl := Option.some.inj H
              go_wp2_with (first | ((with_reducible refine gate_callee (f := 25) rfl ?_); refine goesL_ (some 47) rfl rfl Try.func25 (by kernel_rfl) rfl #[.slice A1 l1.length c1] rfl (by (try simp only [List.map_toArray, List.map_cons, List.map_nil]); first | done | rfl | (simp only [List.length_drop, List.length_take]; rfl)) ?_; (with_reducible refine (dirty_All.calls kj7 _ _ l1 t335 _ ?side1 ?side2 A26.out).mono ?_); (case side1 => repeat (first | exact (Kd.C_below HR1.out HB.out) | (with_reducible refine Kd.C_alloc ?_ _) | (with_reducible refine Kd.C_drewN ?_ _) | (with_reducible refine Kd.C_drew ?_))); (case side2 => exact HC1.out); rintro e w46 ⟨v336, rfl, ho0, hb⟩; refine ⟨_, rfl, ?_⟩; have n0_ := Aside0.mk (Kd.R_lower ho0 (below_size (by repeat (first | (with_reducible first | exact HB.out | apply below_alloc | apply pw_below_drewN | apply below_drew1) | exact HB.out)))); have n1_ := Aside0.mk (below_step (by repeat (first | (with_reducible first | exact HB.out | apply below_alloc | apply pw_below_drewN | apply below_drew1) | exact HB.out)) hb); clear HB; have HO337 := n0_; have HB := n1_; clear n0_ n1_; (try clear hb); (try clear hb2); (try clear hk); (try clear hi); (try clear ho0)) | ((with_reducible refine gate_callee (f := 26) rfl ?_); refine goesL_ (some 49) rfl rfl Try.func26 (by kernel_rfl) rfl #[.slice A1 l1.length c1] rfl (by (try simp only [List.map_toArray, List.map_cons, List.map_nil]); first | done | rfl | (simp only [List.length_drop, List.length_take]; rfl)) ?_; (with_reducible refine (counterfoilref07_Right.calls kj7 _ _ l1 false _ ?side1 ?side2 A27.out).mono ?_); (case side1 => repeat (first | exact (Kd.C_below HR1.out HB.out) | (with_reducible refine Kd.C_alloc ?_ _) | (with_reducible refine Kd.C_drewN ?_ _) | (with_reducible refine Kd.C_drew ?_))); (case side2 => exact HC1.out); rintro e w' ⟨rfl, ⟨nd, rfl⟩⟩; refine ⟨_, rfl, ?_⟩; obtain ⟨Ao47, co47, eo47⟩ := Kd.R_slice HO337.out; subst eo47) | (go_at_call 9; (with_reducible refine (counterfoillaw10_awake.calls  t339 _ A45.out).mono ?_); rintro e w48 ⟨rfl, hb⟩; have n0_ := Aside0.mk (Kd.R_below (by (with_reducible repeat (first | apply Kd.R_alloc | apply Kd.R_drewN | apply Kd.R_drew)); exact HO337.out) hb); have n1_ := Aside0.mk (below_step (by repeat (first | (with_reducible first | exact HB.out | apply below_alloc | apply pw_below_drewN | apply below_drew1) | exact HB.out)) hb); clear HO337; clear HB; have HO337 := n0_; have HB := n1_; clear n0_ n1_; (try clear hb); (try clear hb2); (try clear hk); (try clear hi)))
              go_ret
              exact ⟨by first | rfl | (simp [errW_none, errW_some] <;> rfl) | (simp [*, errW_none, errW_some] <;> rfl), by repeat (first | (with_reducible first | exact HB.out | apply below_alloc | apply pw_below_drewN | apply below_drew1) | exact HB.out)⟩
            · rw [if_neg c44] at H
              have c44b0 : ((t335.length : Int) == 0) = false := beq_eq_false_iff_ne.mpr c44
              have c44b1 : ((t335.length : Int) != 0) = true := bne_iff_ne.mpr c44
              have c44b2 : ¬ (t335 = []) := fun h_ => c44 (by rw [h_]; rfl)
              exact absurd H (by simp [hr_])
  · replace c4 := Bool.eq_false_iff.mpr c4
    subst c4
    have H1 : ((counterfoillaw10_awake.f).bind fun t322 => (some t322)) = some r := by rw [if_neg (show ¬ (false = true) by decide)] at H; exact H
    clear H
    have H := H1
    clear H1
    replace H := Option.bind_eq_some_iff.mp H
    obtain ⟨t322, A490, H⟩ := H
    replace H : (some t322) = some r := H
    have A49 := Aside0.mk A490
    clear A490
    obtain rfl := Option.some.inj H
    go_enter Try.func6, Try.ntmps6
    go_wp2_with (first | ((with_reducible refine gate_callee (f := 22) rfl ?_); refine goesL_ (some 14) rfl rfl Try.func22 (by kernel_rfl) rfl #[.slice A1 l1.length c1, .slice A0 l0.length c0] rfl (by (try simp only [List.map_toArray, List.map_cons, List.map_nil]); first | done | rfl | (simp only [List.length_drop, List.length_take]; rfl)) ?_; (with_reducible refine (counterfoilref07_Small.calls k _ _ l1 _ _ l0 false _ ?side1 ?side2 ?side3 ?side4 A3.out).mono ?_); (case side1 => repeat (first | exact HR1.out | (with_reducible refine Kd.C_alloc ?_ _) | (with_reducible refine Kd.C_drewN ?_ _) | (with_reducible refine Kd.C_drew ?_))); (case side2 => exact HC1.out); (case side3 => repeat (first | exact HR0.out | (with_reducible refine Kd.C_alloc ?_ _) | (with_reducible refine Kd.C_drewN ?_ _) | (with_reducible refine Kd.C_drew ?_))); (case side4 => exact HC0.out); rintro e w' ⟨rfl, ⟨nd, rfl⟩⟩; refine ⟨_, rfl, ?_⟩) | ((with_reducible refine gate_callee (f := 9) rfl ?_); refine goesL_ (some 16) rfl rfl Try.func9 (by kernel_rfl) rfl #[] rfl (by (try simp only [List.map_toArray, List.map_cons, List.map_nil]); first | done | rfl | (simp only [List.length_drop, List.length_take]; rfl)) ?_; (with_reducible refine (counterfoillaw10_awake.calls  t322 _ A49.out).mono ?_); rintro e w50 ⟨rfl, hb⟩; refine ⟨_, rfl, ?_⟩; have n0_ := Aside0.mk (below_step (by repeat (first | (with_reducible first | exact HB.out | apply below_alloc | apply pw_below_drewN | apply below_drew1) | exact HB.out)) hb); clear HB; have HB := n0_; clear n0_; (try clear hb); (try clear hb2); (try clear hk); (try clear hi)))
    go_ret
    exact ⟨by first | rfl | (simp [errW_none, errW_some] <;> rfl) | (simp [*, errW_none, errW_some] <;> rfl), by repeat (first | (with_reducible first | exact HB.out | apply below_alloc | apply pw_below_drewN | apply below_drew1) | exact HB.out)⟩

/-- THE ONE PURE STATEMENT of counterfoillaw10_DirtyNames: yours. -/
def counterfoillaw10_DirtyNames.Pure : Prop := ∀ (l0 : List (S60)) (l1 : List (S76)), (l0.length * 32 ≤ 140737488351232 ∧ l0.length ≤ 9223372036854775807 ∧ ∀ y0 ∈ l0, ((Lit.int .i64 y0.f0).wf = true ∧ (Lit.int .i64 y0.f1).wf = true ∧ y0.f2.size ≤ 140737488351232)) → (l1.length * 32 ≤ 140737488351232 ∧ l1.length ≤ 9223372036854775807 ∧ ∀ y0 ∈ l1, ((Lit.int .i64 y0.f0).wf = true ∧ (y0.f1.length * 16 ≤ 140737488351232 ∧ y0.f1.length ≤ 9223372036854775807 ∧ ∀ y1 ∈ y0.f1, y1.size ≤ 140737488351232))) → ∃ k, counterfoillaw10_DirtyNames.f k l0 l1 = some true

end Go.Proofs.Ytcigkejiompieaa.P
