-- Printed by this session's own program wip/mprint.py
import Derived.Test.YtcigkejiompieaaDoorPx0
import Derived.Test.YtcigkejiompieaaDoorPx3
import Derived.Test.YtcigkejiompieaaDoorPx8
import Derived.Test.YtcigkejiompieaaDoorPx9
namespace Go.Proofs.YtcigkejiompieaaDoor.P
open Go.RowKit Go.Proofs.YtcigkejiompieaaDoorW.PrintWords Go.Proofs.YtcigkejiompieaaDoorW.PrintLast Go.Proofs.YtcigkejiompieaaDoorW.PrintMore
attribute [local go_sem] max2_int min2_int max_two min_two max_three min_three max_four min_four   -- for this text's walks alone
set_option linter.unusedVariables false
set_option linter.unusedSimpArgs false

/-! ### vols_Right: function 20 -/
mutual
def vols_Right.l0 : Nat → List (S40) → Int → List (S40) → Int → Int → Option (Bool)
  | 0, _, _, _, _, _ => none
  | k + 1, x0, x3, x6, x7, x8 => if x8 < x7 then (if 0 ≤ x8 then (if x8 < (x6.length : Int) then (if ((rd_T40 x6 x8).f0) ≤ x3 then (vols_Right.j1 k x0 x6 x7 x8 true ((rd_T40 x6 x8).f0) ((rd_T40 x6 x8).f1)) else (if ((rd_T40 x6 x8).f0) > 255 then (vols_Right.j1 k x0 x6 x7 x8 true ((rd_T40 x6 x8).f0) ((rd_T40 x6 x8).f1)) else ((vols_size.f (((rd_T40 x6 x8).f1).length : Int)).bind fun t161 => (vols_Right.j1 k x0 x6 x7 x8 (!t161) ((rd_T40 x6 x8).f0) ((rd_T40 x6 x8).f1))))) else (none)) else (none)) else (some (decide ((x0.length : Int) ≤ 4)))
def vols_Right.j1 : Nat → List (S40) → List (S40) → Int → Int → Bool → Int → List ByteArray → Option (Bool)
  | 0, _, _, _, _, _, _, _ => none
  | k + 1, x0, x6, x7, x8, x27, x161000, x161001 => if x27 = true then (some false) else ((slices_ContainsFunc_string_string.f x161001 27).bind fun t162 => (if t162 = true then (some false) else (vols_Right.l0 k x0 x161000 x6 x7 (wrap64 (x8 + 1)))))
end
def vols_Right.f (k : Nat) (l0 : List (S40)) : Option (Bool) := vols_Right.l0 k l0 0 l0 (l0.length : Int) 0
theorem vols_Right.mono_l : ∀ k, (∀ y0 y1 y2 y3 y4, LeO (vols_Right.l0 k y0 y1 y2 y3 y4) (vols_Right.l0 (k + 1) y0 y1 y2 y3 y4)) ∧ (∀ y0 y1 y2 y3 y4 y5 y6, LeO (vols_Right.j1 k y0 y1 y2 y3 y4 y5 y6) (vols_Right.j1 (k + 1) y0 y1 y2 y3 y4 y5 y6))
  | 0 => ⟨fun _ _ _ _ _ r h => by simp [vols_Right.l0] at h, fun _ _ _ _ _ _ _ r h => by simp [vols_Right.j1] at h⟩
  | k + 1 => by
    obtain ⟨ih0, ih1⟩ := vols_Right.mono_l k
    refine ⟨?_, ?_⟩
    · intro y0 y1 y2 y3 y4
      unfold vols_Right.l0
      repeat' first
      | (with_reducible exact ih0 _ _ _ _ _)
      | (with_reducible exact ih1 _ _ _ _ _ _ _)
      | (with_reducible exact LeO.refl _)
      | (with_reducible exact LeO.none _)
      | (with_reducible refine LeO.ite ?_ ?_)
      | (with_reducible refine LeO.bind ?_ (fun _ => ?_))
      | exact ih0 _ _ _ _ _
      | exact ih1 _ _ _ _ _ _ _
      | exact LeO.none _
      | refine LeO.ite ?_ ?_
      | refine LeO.bind ?_ (fun _ => ?_)
    · intro y0 y1 y2 y3 y4 y5 y6
      unfold vols_Right.j1
      repeat' first
      | (with_reducible exact ih0 _ _ _ _ _)
      | (with_reducible exact ih1 _ _ _ _ _ _ _)
      | (with_reducible exact LeO.refl _)
      | (with_reducible exact LeO.none _)
      | (with_reducible refine LeO.ite ?_ ?_)
      | (with_reducible refine LeO.bind ?_ (fun _ => ?_))
      | exact ih0 _ _ _ _ _
      | exact ih1 _ _ _ _ _ _ _
      | exact LeO.none _
      | refine LeO.ite ?_ ?_
      | refine LeO.bind ?_ (fun _ => ?_)
theorem vols_Right.mono : ∀ a0 k, LeO (vols_Right.f k a0) (vols_Right.f (k + 1) a0) := by
  intro a0 k
  obtain ⟨ih0, ih1⟩ := vols_Right.mono_l k
  unfold vols_Right.f
  repeat' first
      | (with_reducible exact ih0 _ _ _ _ _)
      | (with_reducible exact ih1 _ _ _ _ _ _ _)
      | (with_reducible exact LeO.refl _)
      | (with_reducible exact LeO.none _)
      | (with_reducible refine LeO.ite ?_ ?_)
      | (with_reducible refine LeO.bind ?_ (fun _ => ?_))
      | exact ih0 _ _ _ _ _
      | exact ih1 _ _ _ _ _ _ _
      | exact LeO.none _
      | refine LeO.ite ?_ ?_
      | refine LeO.bind ?_ (fun _ => ?_)
set_option maxHeartbeats 8000000 in
set_option maxRecDepth 100000 in
theorem vols_Right.calls (k : Nat) (A0 : Option Addr) (c0 : Nat) (l0 : List (S40)) (r : Bool) (w : World) (hr0 : Kd.C k40 w A0 l0.length l0) (hc0 : l0.length ≤ c0) (h : vols_Right.f k l0 = some r) :
    Calls Tryd.prog 20 #[.slice A0 l0.length c0] w fun e w' => e = .returned (.bool r) ∧ Below w.heap.size w w' := by
  have hu40 := Tryd.underlying40
  have HR0 := Aside0.mk hr0
  have HC0 := Aside0.mk hc0
  clear hr0 hc0
  have HB := Aside0.mk (Below.refl w.heap.size w)
  have H : (vols_Right.l0 k l0 0 l0 (l0.length : Int) 0) = some r := h
  clear h
  have H' := Aside0.mk H
  clear H
  go_enter Tryd.func20, Tryd.ntmps20
  go_wp2
  go_loopg [3, 8] k (fun kq v3 v8 w' => ∃ (x3_1 : Int) (x8_1 : Int), v3 = .int .i64 x3_1 ∧ v8 = .int .i64 x8_1 ∧ Aside0 (vols_Right.l0 kq l0 x3_1 l0 (l0.length : Int) x8_1 = some r) ∧ Aside0 (kq ≤ k) ∧ Aside0 (Below w.heap.size w w'))
  case atStart => exact ⟨(0), (0), (by first | rfl | (simp; done) | (simp [*]; done)), (by first | rfl | (simp; done) | (simp [*]; done)), H', ⟨Nat.le_refl _⟩, ⟨by repeat (first | (with_reducible first | exact HB.out | apply below_alloc | apply pw_below_drewN | apply below_drew1) | exact HB.out)⟩⟩
  case round =>
    clear H'
    obtain ⟨x3_1, x8_1, rfl, rfl, HA, HK1, HB⟩ := hrel
    cases gk with
    | zero => exact absurd HA.out (by simp [vols_Right.l0])
    | succ k1 =>
      have H := HA.out
      clear HA
      simp only [vols_Right.l0] at H
      by_cases c2 : x8_1 < (l0.length : Int)
      · rw [if_pos c2] at H
        have c2b0 : decide (x8_1 < (l0.length : Int)) = true := decide_eq_true c2
        clear c2
        by_cases c3 : 0 ≤ x8_1
        · rw [if_pos c3] at H
          have c3b0 : decide (0 ≤ x8_1) = true := decide_eq_true c3
          clear c3
          by_cases c4 : x8_1 < (l0.length : Int)
          · rw [if_pos c4] at H
            have c4b0 : decide (x8_1 < (l0.length : Int)) = true := decide_eq_true c4
            clear c4
            have HC5 := Aside0.mk H
            clear H
            have p159 : 0 ≤ (x8_1 : Int) := of_decide_eq_true (by first | (with_reducible assumption) | assumption)
            have q159 : x8_1 < (l0.length : Int) := of_decide_eq_true (by first | (with_reducible assumption) | assumption)
            obtain ⟨ad159, A159_1, c159_1, e159, hx159_0, hx159_1, hl159_1, hi159_1⟩ := at_T40 HR0.out x8_1 p159 q159
            cases e159
            replace hx159_0 := (HB.out.cell (World.block_lt_of_cell? w _ hx159_0)).trans hx159_0
            replace hx159_1 := (HB.out.cell (World.block_lt_of_cell? w _ hx159_1)).trans hx159_1
            have HR159_1 := Aside0.mk hi159_1
            have HC159_1 := Aside0.mk hl159_1
            clear hi159_1 hl159_1
            replace p159 := eq_true p159
            replace q159 := eq_true q159
            go_upto_region 5 with (first | ((with_reducible refine gate_dst (N := 5) rfl ?_); (try (refine gate_guard (by rfl) ?_; dsimp only)); refine box_event ?hg (N := 5) ?hd (cs := #[.int .i64 0, .slice none 0 0]) (t := 40) ?hr ?_; (case hd => rfl); (case hg => rfl); (case hr => first | (go_simp; done) | (go_simp; rfl) | (go_simp; simp only [w64m])); intro gb160 hg w6 hbox hb; have n0_ := Aside0.mk (below_step (by repeat (first | (with_reducible first | exact HB.out | apply below_alloc | apply pw_below_drewN | apply below_drew1) | exact HB.out)) hb); have n1_ := Aside0.mk (hbox); have n2_ := Aside0.mk ((by rw [hg]; exact (below_size (by repeat (first | (with_reducible first | exact HB.out | apply below_alloc | apply pw_below_drewN | apply below_drew1) | exact HB.out))) : w.heap.size ≤ gb160)); have n3_ := Aside0.mk ((by rw [hg]; exact (below_size (by repeat (first | (with_reducible first | exact HB.out | apply below_alloc | apply pw_below_drewN | apply below_drew1) | exact HB.out))) : w.heap.size ≤ gb160)); clear HB; have HB := n0_; have BK160 := n1_; have GW160 := n2_; have GE160 := n3_; clear n0_ n1_ n2_ n3_; clear hb hbox hg; have hcz7_0 : w6.cell? ⟨gb160, 0, none⟩ = some (.int .i64 0) := (blk_cell BK160.out 0).trans rfl; have hcz7_1 : w6.cell? ⟨gb160, 1, none⟩ = some (.slice none 0 0) := (blk_cell BK160.out 1).trans rfl; have hfz7_0 := blk_frozen BK160.out 0; have hfz7_1 := blk_frozen BK160.out 1))
            (try simp only [Act.put, List.setIfInBounds_toArray, List.set_cons_zero, List.set_cons_succ])
            go_cut [27] (fun v27 wc => ∃ (kq : Nat) (x27_4 : Bool), v27 = .bool x27_4 ∧ Aside0 (vols_Right.j1 kq l0 l0 (l0.length : Int) x8_1 x27_4 ((rd_T40 l0 x8_1).f0) ((rd_T40 l0 x8_1).f1) = some r) ∧ Aside0 (kq ≤ k1) ∧ Aside0 (wc.heap[gb160]? = some (.cells #[.int .i64 ((rd_T40 l0 x8_1).f0), (.slice A159_1 ((rd_T40 l0 x8_1).f1).length c159_1)] 40 (0, 0))) ∧ Aside0 (Below w.heap.size w wc))
            case first =>
              have H := HC5.out
              clear HC5
              by_cases c8 : ((rd_T40 l0 x8_1).f0) ≤ x3_1
              · rw [if_pos c8] at H
                have c8b0 : decide (((rd_T40 l0 x8_1).f0) ≤ x3_1) = true := decide_eq_true c8
                clear c8
                (first | rw [c8b0] | (simp only [i64_w, i32_w]; rw [c8b0]) | skip)
                have H' := Aside0.mk H
                clear H
                have hcz9_0 : w6.cell? ⟨gb160, 0, none⟩ = some (.int .i64 0) := (blk_cell BK160.out 0).trans rfl
                have hcz9_1 : w6.cell? ⟨gb160, 1, none⟩ = some (.slice none 0 0) := (blk_cell BK160.out 1).trans rfl
                have hfz9_0 := blk_frozen BK160.out 0
                have hfz9_1 := blk_frozen BK160.out 1
                go_wp2
                go_meet
                case rel => exact ⟨_, (true), (by first | rfl | (simp; done) | (simp [*]; done)), H', ⟨by have := HK1.out; first | omega | exact Nat.le_refl _⟩, ⟨by (with_reducible repeat (first | refine blk_drewN ?_ _ | refine blk_drew ?_ | refine blk_alloc ?_ _)); refine blk_put (cs := #[.int .i64 ((rd_T40 l0 x8_1).f0), .slice none 0 0]) ?_ 1 _ rfl; (with_reducible repeat (first | refine blk_drewN ?_ _ | refine blk_drew ?_ | refine blk_alloc ?_ _)); refine blk_put (cs := #[.int .i64 0, .slice none 0 0]) ?_ 0 _ rfl; (with_reducible repeat (first | refine blk_drewN ?_ _ | refine blk_drew ?_ | refine blk_alloc ?_ _)); exact BK160.out⟩, ⟨by repeat (first | (with_reducible first | exact HB.out | apply below_alloc | apply pw_below_drewN | apply below_drew1 | refine below_set ?_ GE160.out) | exact HB.out)⟩⟩
              · rw [if_neg c8] at H
                have c8b0 : decide (((rd_T40 l0 x8_1).f0) ≤ x3_1) = false := decide_eq_false c8
                clear c8
                (first | rw [c8b0] | (simp only [i64_w, i32_w]; rw [c8b0]) | skip)
                by_cases c10 : ((rd_T40 l0 x8_1).f0) > 255
                · rw [if_pos c10] at H
                  have c10b0 : decide (255 < ((rd_T40 l0 x8_1).f0)) = true := decide_eq_true c10
                  clear c10
                  have H' := Aside0.mk H
                  clear H
                  have hcz11_0 : w6.cell? ⟨gb160, 0, none⟩ = some (.int .i64 0) := (blk_cell BK160.out 0).trans rfl
                  have hcz11_1 : w6.cell? ⟨gb160, 1, none⟩ = some (.slice none 0 0) := (blk_cell BK160.out 1).trans rfl
                  have hfz11_0 := blk_frozen BK160.out 0
                  have hfz11_1 := blk_frozen BK160.out 1
                  go_wp2
                  go_meet
                  case rel => exact ⟨_, (true), (by first | rfl | (simp; done) | (simp [*]; done)), H', ⟨by have := HK1.out; first | omega | exact Nat.le_refl _⟩, ⟨by (with_reducible repeat (first | refine blk_drewN ?_ _ | refine blk_drew ?_ | refine blk_alloc ?_ _)); refine blk_put (cs := #[.int .i64 ((rd_T40 l0 x8_1).f0), .slice none 0 0]) ?_ 1 _ rfl; (with_reducible repeat (first | refine blk_drewN ?_ _ | refine blk_drew ?_ | refine blk_alloc ?_ _)); refine blk_put (cs := #[.int .i64 0, .slice none 0 0]) ?_ 0 _ rfl; (with_reducible repeat (first | refine blk_drewN ?_ _ | refine blk_drew ?_ | refine blk_alloc ?_ _)); exact BK160.out⟩, ⟨by repeat (first | (with_reducible first | exact HB.out | apply below_alloc | apply pw_below_drewN | apply below_drew1 | refine below_set ?_ GE160.out) | exact HB.out)⟩⟩
                · rw [if_neg c10] at H
                  have c10b0 : decide (255 < ((rd_T40 l0 x8_1).f0)) = false := decide_eq_false c10
                  clear c10
                  replace H := Option.bind_eq_some_iff.mp H
                  obtain ⟨t161, A120, H⟩ := H
                  replace H : (vols_Right.j1 k1 l0 l0 (l0.length : Int) x8_1 (!t161) ((rd_T40 l0 x8_1).f0) ((rd_T40 l0 x8_1).f1)) = some r := H
                  have A12 := Aside0.mk A120
                  clear A120
                  have H' := Aside0.mk H
                  clear H
                  have hcz13_0 : w6.cell? ⟨gb160, 0, none⟩ = some (.int .i64 0) := (blk_cell BK160.out 0).trans rfl
                  have hcz13_1 : w6.cell? ⟨gb160, 1, none⟩ = some (.slice none 0 0) := (blk_cell BK160.out 1).trans rfl
                  have hfz13_0 := blk_frozen BK160.out 0
                  have hfz13_1 := blk_frozen BK160.out 1
                  go_wp2_with (first | (go_at_call 25; (with_reducible refine (vols_size.calls (((rd_T40 l0 x8_1).f1).length : Int) t161 _ A12.out).mono ?_); rintro e w' ⟨rfl, ⟨nd, rfl⟩⟩))
                  go_meet
                  case rel => exact ⟨_, (!t161), (by first | rfl | (simp; done) | (simp [*]; done)), H', ⟨by have := HK1.out; first | omega | exact Nat.le_refl _⟩, ⟨by (with_reducible repeat (first | refine blk_drewN ?_ _ | refine blk_drew ?_ | refine blk_alloc ?_ _)); refine blk_put (cs := #[.int .i64 ((rd_T40 l0 x8_1).f0), .slice none 0 0]) ?_ 1 _ rfl; (with_reducible repeat (first | refine blk_drewN ?_ _ | refine blk_drew ?_ | refine blk_alloc ?_ _)); refine blk_put (cs := #[.int .i64 0, .slice none 0 0]) ?_ 0 _ rfl; (with_reducible repeat (first | refine blk_drewN ?_ _ | refine blk_drew ?_ | refine blk_alloc ?_ _)); exact BK160.out⟩, ⟨by repeat (first | (with_reducible first | exact HB.out | apply below_alloc | apply pw_below_drewN | apply below_drew1 | refine below_set ?_ GE160.out) | exact HB.out)⟩⟩
            case rest =>
              clear HC5
              try clear c1
              try clear p1
              try clear q1
              try clear hx1
              try clear c2
              try clear c2b0
              try clear p2
              try clear c3
              try clear c3b0
              try clear c4
              try clear c4b0
              try clear c8
              try clear c8b0
              try clear c10
              try clear c10b0
              try clear hcz11_0
              try clear hcz11_1
              try clear hcz13_0
              try clear hcz13_1
              try clear hcz7_0
              try clear hcz7_1
              try clear hcz9_0
              try clear hcz9_1
              try clear hfz11_0
              try clear hfz11_1
              try clear hfz13_0
              try clear hfz13_1
              try clear hfz7_0
              try clear hfz7_1
              try clear hfz9_0
              try clear hfz9_1
              try clear hx159_0
              try clear hx159_1
              try clear p159
              try clear q159
              obtain ⟨kq, x27_4, rfl, HA, HJ4, BK160, HB⟩ := hcut
              cases kq with
              | zero => exact absurd HA.out (by simp [vols_Right.j1])
              | succ kj4 =>
                have H := HA.out
                clear HA
                simp only [vols_Right.j1] at H
                by_cases c14 : x27_4 = true
                · subst c14
                  have H1 : (some false) = some r := by rw [if_pos rfl] at H; exact H
                  clear H
                  have H := H1
                  clear H1
                  obtain rfl := Option.some.inj H
                  go_wp2
                  go_ret
                  exact ⟨by first | rfl | (simp [errW_none, errW_some] <;> rfl) | (simp [*, errW_none, errW_some] <;> rfl), by repeat (first | (with_reducible first | exact HB.out | apply below_alloc | apply pw_below_drewN | apply below_drew1 | refine below_set ?_ GE160.out) | exact HB.out)⟩
                · replace c14 := Bool.eq_false_iff.mpr c14
                  subst c14
                  have H1 : ((slices_ContainsFunc_string_string.f ((rd_T40 l0 x8_1).f1) 27).bind fun t162 => (if t162 = true then (some false) else (vols_Right.l0 kj4 l0 ((rd_T40 l0 x8_1).f0) l0 (l0.length : Int) (wrap64 (x8_1 + 1))))) = some r := by rw [if_neg (show ¬ (false = true) by decide)] at H; exact H
                  clear H
                  have H := H1
                  clear H1
                  replace H := Option.bind_eq_some_iff.mp H
                  obtain ⟨t162, A150, H⟩ := H
                  replace H : (if t162 = true then (some false) else (vols_Right.l0 kj4 l0 ((rd_T40 l0 x8_1).f0) l0 (l0.length : Int) (wrap64 (x8_1 + 1)))) = some r := H
                  have A15 := Aside0.mk A150
                  clear A150
                  by_cases c16 : t162 = true
                  · subst c16
                    have H1 : (some false) = some r := by rw [if_pos rfl] at H; exact H
                    clear H
                    have H := H1
                    clear H1
                    obtain rfl := Option.some.inj H
                    have hcz17_0 : wc.cell? ⟨gb160, 0, none⟩ = some (.int .i64 ((rd_T40 l0 x8_1).f0)) := (blk_cell BK160.out 0).trans rfl
                    have hcz17_1 : wc.cell? ⟨gb160, 1, none⟩ = some (.slice A159_1 ((rd_T40 l0 x8_1).f1).length c159_1) := (blk_cell BK160.out 1).trans rfl
                    have hfz17_0 := blk_frozen BK160.out 0
                    have hfz17_1 := blk_frozen BK160.out 1
                    go_wp2_with (first | ((with_reducible refine gate_callee (f := 26) rfl ?_); refine goesL_ (some 30) rfl rfl Tryd.func26 (by kernel_rfl) rfl #[.slice A159_1 ((rd_T40 l0 x8_1).f1).length c159_1, .func (.func 27) #[] #[]] rfl (by (try simp only [List.map_toArray, List.map_cons, List.map_nil]); first | done | rfl | (simp only [List.length_drop, List.length_take]; rfl)) ?_; (with_reducible refine (slices_ContainsFunc_string_string.calls _ _ ((rd_T40 l0 x8_1).f1) 27 true _ ?side1 ?side2 A15.out).mono ?_); (case side1 => repeat (first | exact (Kd.C_below HR159_1.out HB.out) | (with_reducible refine Kd.C_alloc ?_ _) | (with_reducible refine Kd.C_drewN ?_ _) | (with_reducible refine Kd.C_drew ?_))); (case side2 => exact HC159_1.out); rintro e w18 ⟨rfl, hb⟩; refine ⟨_, rfl, ?_⟩; have n0_ := Aside0.mk (blk_below (g := gb160) (o := .cells #[.int .i64 ((rd_T40 l0 x8_1).f0), .slice A159_1 ((rd_T40 l0 x8_1).f1).length c159_1] 40 (0, 0)) (by (with_reducible repeat (first | refine blk_drewN ?_ _ | refine blk_drew ?_ | refine blk_alloc ?_ _)); exact BK160.out) hb); have n1_ := Aside0.mk (below_step (by repeat (first | (with_reducible first | exact HB.out | apply below_alloc | apply pw_below_drewN | apply below_drew1 | refine below_set ?_ GE160.out) | exact HB.out)) hb); clear BK160; clear HB; have BK160 := n0_; have HB := n1_; clear n0_ n1_; (try clear hb); (try clear hb2); (try clear hk); (try clear hi)))
                    go_ret
                    exact ⟨by first | rfl | (simp [errW_none, errW_some] <;> rfl) | (simp [*, errW_none, errW_some] <;> rfl), by repeat (first | (with_reducible first | exact HB.out | apply below_alloc | apply pw_below_drewN | apply below_drew1 | refine below_set ?_ GE160.out) | exact HB.out)⟩
                  · replace c16 := Bool.eq_false_iff.mpr c16
                    subst c16
                    have H1 : (vols_Right.l0 kj4 l0 ((rd_T40 l0 x8_1).f0) l0 (l0.length : Int) (wrap64 (x8_1 + 1))) = some r := by rw [if_neg (show ¬ (false = true) by decide)] at H; exact H
                    clear H
                    have H := H1
                    clear H1
                    have H' := Aside0.mk H
                    clear H
                    have hcz19_0 : wc.cell? ⟨gb160, 0, none⟩ = some (.int .i64 ((rd_T40 l0 x8_1).f0)) := (blk_cell BK160.out 0).trans rfl
                    have hcz19_1 : wc.cell? ⟨gb160, 1, none⟩ = some (.slice A159_1 ((rd_T40 l0 x8_1).f1).length c159_1) := (blk_cell BK160.out 1).trans rfl
                    have hfz19_0 := blk_frozen BK160.out 0
                    have hfz19_1 := blk_frozen BK160.out 1
                    go_wp2_with (first | ((with_reducible refine gate_callee (f := 26) rfl ?_); refine goesL_ (some 30) rfl rfl Tryd.func26 (by kernel_rfl) rfl #[.slice A159_1 ((rd_T40 l0 x8_1).f1).length c159_1, .func (.func 27) #[] #[]] rfl (by (try simp only [List.map_toArray, List.map_cons, List.map_nil]); first | done | rfl | (simp only [List.length_drop, List.length_take]; rfl)) ?_; (with_reducible refine (slices_ContainsFunc_string_string.calls _ _ ((rd_T40 l0 x8_1).f1) 27 false _ ?side1 ?side2 A15.out).mono ?_); (case side1 => repeat (first | exact (Kd.C_below HR159_1.out HB.out) | (with_reducible refine Kd.C_alloc ?_ _) | (with_reducible refine Kd.C_drewN ?_ _) | (with_reducible refine Kd.C_drew ?_))); (case side2 => exact HC159_1.out); rintro e w20 ⟨rfl, hb⟩; refine ⟨_, rfl, ?_⟩; have n0_ := Aside0.mk (blk_below (g := gb160) (o := .cells #[.int .i64 ((rd_T40 l0 x8_1).f0), .slice A159_1 ((rd_T40 l0 x8_1).f1).length c159_1] 40 (0, 0)) (by (with_reducible repeat (first | refine blk_drewN ?_ _ | refine blk_drew ?_ | refine blk_alloc ?_ _)); exact BK160.out) hb); have n1_ := Aside0.mk (below_step (by repeat (first | (with_reducible first | exact HB.out | apply below_alloc | apply pw_below_drewN | apply below_drew1 | refine below_set ?_ GE160.out) | exact HB.out)) hb); clear BK160; clear HB; have BK160 := n0_; have HB := n1_; clear n0_ n1_; (try clear hb); (try clear hb2); (try clear hk); (try clear hi); have hcz21_0 : w20.cell? ⟨gb160, 0, none⟩ = some (.int .i64 ((rd_T40 l0 x8_1).f0)) := (blk_cell BK160.out 0).trans rfl; have hcz21_1 : w20.cell? ⟨gb160, 1, none⟩ = some (.slice A159_1 ((rd_T40 l0 x8_1).f1).length c159_1) := (blk_cell BK160.out 1).trans rfl; have hfz21_0 := blk_frozen BK160.out 0; have hfz21_1 := blk_frozen BK160.out 1))
                    go_roundg kj4
                    case measure => have := HK1.out; have := HJ4.out; omega
                    case rel => exact ⟨(((rd_T40 l0 x8_1).f0)), (wrap64 (x8_1 + 1)), (by first | rfl | (simp; done) | (simp [*]; done)), (by first | rfl | (simp; done) | (simp [*]; done)), H', ⟨by have := HK1.out; have := HJ4.out; omega⟩, ⟨by repeat (first | (with_reducible first | exact HB.out | apply below_alloc | apply pw_below_drewN | apply below_drew1 | refine below_set ?_ GE160.out) | exact HB.out)⟩⟩
          · rw [if_neg c4] at H
            exact absurd H (by simp)
        · rw [if_neg c3] at H
          exact absurd H (by simp)
      · rw [if_neg c2] at H
        have c2b0 : decide (x8_1 < (l0.length : Int)) = false := decide_eq_false c2
        clear c2
        obtain rfl := Option.some.inj H
        go_wp2
        go_ret
        exact ⟨by first | rfl | (simp [errW_none, errW_some] <;> rfl) | (simp [*, errW_none, errW_some] <;> rfl), by repeat (first | (with_reducible first | exact HB.out | apply below_alloc | apply pw_below_drewN | apply below_drew1) | exact HB.out)⟩

-- NOT PRINTED: function 21 (dirty_spread)

/-! ### dirty_All: function 22 -/
def dirty_All.l0 : Nat → List (S48) → List (S40) → Int → Int → Option ((List (S48)))
  | 0, _, _, _, _ => none
  | k + 1, x3, x9, x10, x11 => if x11 < x10 then (if 0 ≤ x11 then (if x11 < (x9.length : Int) then (if x3.length < 8796093022208 then (dirty_All.l0 k (x3 ++ [(⟨(rd_T40 x9 x11).f0, IntKind.u64.wrap ((shl .u64 1 (((rd_T40 x9 x11).f1).length : Int)) - 1)⟩ : S48)]) x9 x10 (wrap64 (x11 + 1))) else (none)) else (none)) else (none)) else (some x3)
def dirty_All.f (k : Nat) (l0 : List (S40)) : Option ((List (S48))) := (vols_Right.f k l0).bind fun t163 => (if t163 = true then (dirty_All.l0 k ([] : List (S48)) l0 (l0.length : Int) 0) else (some ([] : List (S48))))
theorem dirty_All.mono_l : ∀ k, (∀ y0 y1 y2 y3, LeO (dirty_All.l0 k y0 y1 y2 y3) (dirty_All.l0 (k + 1) y0 y1 y2 y3))
  | 0 => fun _ _ _ _ r h => by simp [dirty_All.l0] at h
  | k + 1 => by
    have ih0 := dirty_All.mono_l k
    · intro y0 y1 y2 y3
      unfold dirty_All.l0
      repeat' first
      | (with_reducible exact ih0 _ _ _ _)
      | (with_reducible exact vols_Right.mono _ _)
      | (with_reducible exact LeO.refl _)
      | (with_reducible exact LeO.none _)
      | (with_reducible refine LeO.ite ?_ ?_)
      | (with_reducible refine LeO.bind ?_ (fun _ => ?_))
      | exact ih0 _ _ _ _
      | exact vols_Right.mono _ _
      | exact LeO.none _
      | refine LeO.ite ?_ ?_
      | refine LeO.bind ?_ (fun _ => ?_)
theorem dirty_All.mono : ∀ a0 k, LeO (dirty_All.f k a0) (dirty_All.f (k + 1) a0) := by
  intro a0 k
  have ih0 := dirty_All.mono_l k
  unfold dirty_All.f
  repeat' first
      | (with_reducible exact ih0 _ _ _ _)
      | (with_reducible exact vols_Right.mono _ _)
      | (with_reducible exact LeO.refl _)
      | (with_reducible exact LeO.none _)
      | (with_reducible refine LeO.ite ?_ ?_)
      | (with_reducible refine LeO.bind ?_ (fun _ => ?_))
      | exact ih0 _ _ _ _
      | exact vols_Right.mono _ _
      | exact LeO.none _
      | refine LeO.ite ?_ ?_
      | refine LeO.bind ?_ (fun _ => ?_)
def dirty_All.T7 : Bool × List (List Nat × List Nat) := (true, [([], []), ([], []), ([1], [1]), ([], []), ([3], [3]), ([4], [4]), ([5], [5]), ([6], [6]), ([2, 7], [2, 7]), ([8], [8]), ([0, 9], [0, 9]), ([10, 10, 0, 1, 2, 3, 4, 5, 6, 7, 8, 9, 10], [0, 10])])
def dirty_All.B7 : List Nat := [0, 0, 2, 0, 8, 24, 56, 120, 254, 510, 1023, 2047]
theorem dirty_All.tab7 : rtab .any (opsOf Tryd.f22 7) = dirty_All.T7 := by kernel_rfl
theorem dirty_All.bits7 : waitsOk dirty_All.T7.2 dirty_All.B7 = true := by kernel_rfl
set_option maxHeartbeats 8000000 in
set_option maxRecDepth 100000 in
theorem dirty_All.calls (k : Nat) (A0 : Option Addr) (c0 : Nat) (l0 : List (S40)) (r : List (S48)) (w : World) (hr0 : Kd.C k40 w A0 l0.length l0) (hc0 : l0.length ≤ c0) (h : dirty_All.f k l0 = some r) :
    Calls Tryd.prog 22 #[.slice A0 l0.length c0] w fun e w' => ∃ v0_ : Value, e = .returned (v0_) ∧ Kd.R k48 48 w' w.heap.size (fun _ => True) v0_ r ∧ Below w.heap.size w w' := by
  have hu40 := Tryd.underlying40
  have hu48 := Tryd.underlying48
  have HR0 := Aside0.mk hr0
  have HC0 := Aside0.mk hc0
  clear hr0 hc0
  have HB := Aside0.mk (Below.refl w.heap.size w)
  have H : ((vols_Right.f k l0).bind fun t163 => (if t163 = true then (dirty_All.l0 k ([] : List (S48)) l0 (l0.length : Int) 0) else (some ([] : List (S48))))) = some r := h
  clear h
  replace H := Option.bind_eq_some_iff.mp H
  obtain ⟨t163, A20, H⟩ := H
  replace H : (if t163 = true then (dirty_All.l0 k ([] : List (S48)) l0 (l0.length : Int) 0) else (some ([] : List (S48)))) = some r := H
  have A2 := Aside0.mk A20
  clear A20
  by_cases c3 : t163 = true
  · subst c3
    have H1 : (dirty_All.l0 k ([] : List (S48)) l0 (l0.length : Int) 0) = some r := by rw [if_pos rfl] at H; exact H
    clear H
    have H := H1
    clear H1
    have H' := Aside0.mk H
    clear H
    go_enter Tryd.func22, Tryd.ntmps22
    go_wp2_with (first | ((with_reducible refine gate_callee (f := 20) rfl ?_); refine goesL_ (some 7) rfl rfl Tryd.func20 (by kernel_rfl) rfl #[.slice A0 l0.length c0] rfl (by (try simp only [List.map_toArray, List.map_cons, List.map_nil]); first | done | rfl | (simp only [List.length_drop, List.length_take]; rfl)) ?_; (with_reducible refine (vols_Right.calls k _ _ l0 true _ ?side1 ?side2 A2.out).mono ?_); (case side1 => repeat (first | exact HR0.out | (with_reducible refine Kd.C_alloc ?_ _) | (with_reducible refine Kd.C_drewN ?_ _) | (with_reducible refine Kd.C_drew ?_))); (case side2 => exact HC0.out); rintro e w4 ⟨rfl, hb⟩; refine ⟨_, rfl, ?_⟩; have n0_ := Aside0.mk (below_step (by repeat (first | (with_reducible first | exact HB.out | apply below_alloc | apply pw_below_drewN | apply below_drew1) | exact HB.out)) hb); clear HB; have HB := n0_; clear n0_; (try clear hb); (try clear hb2); (try clear hk); (try clear hi)))
    go_loopg [3, 11] k (fun kq v3 v11 w' => ∃ (x3_1 : List (S48)) (x11_1 : Int), v11 = .int .i64 x11_1 ∧ Aside0 (dirty_All.l0 kq x3_1 l0 (l0.length : Int) x11_1 = some r) ∧ Aside0 (kq ≤ k) ∧ Aside0 (Kd.R k48 48 w' w.heap.size (fun _ => True) v3 x3_1) ∧ Aside0 (Below w.heap.size w w'))
    case atStart => exact ⟨(([] : List (S48))), (0), (by first | rfl | (simp; done) | (simp [*]; done)), H', ⟨Nat.le_refl _⟩, ⟨by first | exact Kd.R_nil _ _ _ _ _ | exact Kd.N_nil _ _ _ _ _ | exact Kd.V_nil _ _ _ _ _ | exact Kd.Q_nil _ _ _ _ _ | exact Kd.S_nil _ _ _ _ _⟩, ⟨by repeat (first | (with_reducible first | exact HB.out | apply below_alloc | apply pw_below_drewN | apply below_drew1) | exact HB.out)⟩⟩
    case round =>
      clear H'
      try clear c2
      try clear p2
      try clear c3
      obtain ⟨x3_1, x11_1, rfl, HA, HK1, HO_3, HB⟩ := hrel
      cases gk with
      | zero => exact absurd HA.out (by simp [dirty_All.l0])
      | succ k1 =>
        have H := HA.out
        clear HA
        simp only [dirty_All.l0] at H
        by_cases c5 : x11_1 < (l0.length : Int)
        · rw [if_pos c5] at H
          have c5b0 : decide (x11_1 < (l0.length : Int)) = true := decide_eq_true c5
          clear c5
          by_cases c6 : 0 ≤ x11_1
          · rw [if_pos c6] at H
            have c6b0 : decide (0 ≤ x11_1) = true := decide_eq_true c6
            clear c6
            by_cases c7 : x11_1 < (l0.length : Int)
            · rw [if_pos c7] at H
              have c7b0 : decide (x11_1 < (l0.length : Int)) = true := decide_eq_true c7
              clear c7
              obtain ⟨ji8, hji8⟩ : ∃ j_ : Int, (shl .u64 1 (((rd_T40 l0 x11_1).f1).length : Int)) = j_ := ⟨_, rfl⟩
              replace H : (if x3_1.length < 8796093022208 then (dirty_All.l0 k1 (x3_1 ++ [(⟨(rd_T40 l0 x11_1).f0, IntKind.u64.wrap ((ji8) - 1)⟩ : S48)]) l0 (l0.length : Int) (wrap64 (x11_1 + 1))) else (none)) = some r := by first | (rw [hji8] at H; exact H) | (simp only [hji8] at H ⊢; exact H)
              have hji8_ : (IntKind.u64.wrap (1 * 2 ^ min (((rd_T40 l0 x11_1).f1).length : Int).toNat 64)) = ji8 := hji8
              have hji8z : (((rd_T40 l0 x11_1).f1).length : Int) ≤ 64 → (IntKind.u64.wrap (1 * 2 ^ (((rd_T40 l0 x11_1).f1).length : Int).toNat)) = ji8 := shl_small hji8
              have hji8p : (IntKind.u64.wrap (1 * 2 ^ min ((rd_T40 l0 x11_1).f1).length 64)) = ji8 := hji8_
              have hji8q : (((rd_T40 l0 x11_1).f1).length : Int) ≤ 64 → (IntKind.u64.wrap (1 * 2 ^ ((rd_T40 l0 x11_1).f1).length)) = ji8 := hji8z
              have hji8r : (IntKind.u64.wrap (2 ^ min ((rd_T40 l0 x11_1).f1).length 64)) = ji8 := by have h_ := hji8p; rw [Int.one_mul] at h_; exact h_
              have hji8s : (((rd_T40 l0 x11_1).f1).length : Int) ≤ 64 → (IntKind.u64.wrap (2 ^ ((rd_T40 l0 x11_1).f1).length)) = ji8 := fun hle_ => by have h_ := hji8q hle_; rw [Int.one_mul] at h_; exact h_
              have hji8u : (IntKind.u64.wrap (2 ^ min (((rd_T40 l0 x11_1).f1).length : Int).toNat 64)) = ji8 := by have h_ := hji8_; rw [Int.one_mul] at h_; exact h_
              have hji8v : (((rd_T40 l0 x11_1).f1).length : Int) ≤ 64 → (IntKind.u64.wrap (2 ^ (((rd_T40 l0 x11_1).f1).length : Int).toNat)) = ji8 := fun hle_ => by have h_ := hji8z hle_; rw [Int.one_mul] at h_; exact h_
              by_cases c9 : x3_1.length < 8796093022208
              · rw [if_pos c9] at H
                have LMc9 := Aside0.mk c9
                clear c9
                obtain ⟨y166, hy166⟩ : ∃ y_ : List (S48), y_ = (x3_1 ++ [(⟨(rd_T40 l0 x11_1).f0, IntKind.u64.wrap ((ji8) - 1)⟩ : S48)]) := ⟨_, rfl⟩
                replace H : (dirty_All.l0 k1 y166 l0 (l0.length : Int) (wrap64 (x11_1 + 1))) = some r := by first | (rw [hy166]; with_reducible exact H) | (have H2_ := (Option.bind_some _ _).symm.trans H; rw [hy166]; with_reducible exact H2_) | (have H2_ := (Option.bind_some _ _).symm.trans H; with_reducible exact H2_) | with_reducible exact H | (rw [hy166]; exact H) | exact H
                have Ny166 := Aside0.mk hy166
                clear hy166
                have H' := Aside0.mk H
                clear H
                have p164 : 0 ≤ (x11_1 : Int) := of_decide_eq_true (by first | (with_reducible assumption) | assumption)
                have q164 : x11_1 < (l0.length : Int) := of_decide_eq_true (by first | (with_reducible assumption) | assumption)
                obtain ⟨ad164, A164_1, c164_1, e164, hx164_0, hx164_1, hl164_1, hi164_1⟩ := at_T40 HR0.out x11_1 p164 q164
                cases e164
                replace hx164_0 := (HB.out.cell (World.block_lt_of_cell? w _ hx164_0)).trans hx164_0
                replace hx164_1 := (HB.out.cell (World.block_lt_of_cell? w _ hx164_1)).trans hx164_1
                have HR164_1 := Aside0.mk hi164_1
                have HC164_1 := Aside0.mk hl164_1
                clear hi164_1 hl164_1
                replace p164 := eq_true p164
                replace q164 := eq_true q164
                try go_wp2_with (first | ((with_reducible refine gate_dst (N := 5) rfl ?_); refine box_event ?hg (N := 5) ?hd (cs := #[.int .i64 0, .slice none 0 0]) (t := 40) ?hr ?_; (case hd => rfl); (case hg => rfl); (case hr => first | (go_simp; done) | (go_simp; rfl) | (go_simp; simp only [w64m])); intro gb165 hg w10 hbox hb; have n0_ := Aside0.mk (Kd.R_below (by (with_reducible repeat (first | apply Kd.R_alloc | apply Kd.R_drewN | apply Kd.R_drew)); exact HO_3.out) hb); have n1_ := Aside0.mk (below_step (by repeat (first | (with_reducible first | exact HB.out | apply below_alloc | apply pw_below_drewN | apply below_drew1) | exact HB.out)) hb); have n2_ := Aside0.mk (hbox); have n3_ := Aside0.mk ((by rw [hg]; exact (below_size (by repeat (first | (with_reducible first | exact HB.out | apply below_alloc | apply pw_below_drewN | apply below_drew1) | exact HB.out))) : w.heap.size ≤ gb165)); have n4_ := Aside0.mk ((by rw [hg]; exact (below_size (by repeat (first | (with_reducible first | exact HB.out | apply below_alloc | apply pw_below_drewN | apply below_drew1) | exact HB.out))) : w.heap.size ≤ gb165)); clear HO_3; clear HB; have HO_3 := n0_; have HB := n1_; have BK165 := n2_; have GW165 := n3_; have GE165 := n4_; clear n0_ n1_ n2_ n3_ n4_; clear hb hbox hg; have hcz11_0 : w10.cell? ⟨gb165, 0, none⟩ = some (.int .i64 0) := (blk_cell BK165.out 0).trans rfl; have hcz11_1 : w10.cell? ⟨gb165, 1, none⟩ = some (.slice none 0 0) := (blk_cell BK165.out 1).trans rfl; have hfz11_0 := blk_frozen BK165.out 0; have hfz11_1 := blk_frozen BK165.out 1))
                have n0_ : Aside0 (Kd.R k48 48 ((w10.setCell ⟨gb165, 0, none⟩ (.int .i64 ((rd_T40 l0 x11_1).f0))).setCell ⟨gb165, 1, none⟩ (.slice A164_1 ((rd_T40 l0 x11_1).f1).length c164_1)) w.heap.size (fun _ => True) u3 x3_1) := ⟨by (with_reducible repeat (first | apply Kd.R_alloc | apply Kd.R_drewN | apply Kd.R_drew)); exact Kd.R_mono (Kd.R_far (p := ⟨gb165, 1, none⟩) (Kd.R_far (p := ⟨gb165, 0, none⟩) (Kd.R_types HO_3.out BK165.out (by decide)) (fun _ hk => hk.2) (.int .i64 ((rd_T40 l0 x11_1).f0))) (fun _ hk => hk.2) (.slice A164_1 ((rd_T40 l0 x11_1).f1).length c164_1)) (fun _ hk => trivial)⟩
                have n1_ : Aside0 (((w10.setCell ⟨gb165, 0, none⟩ (.int .i64 ((rd_T40 l0 x11_1).f0))).setCell ⟨gb165, 1, none⟩ (.slice A164_1 ((rd_T40 l0 x11_1).f1).length c164_1)).heap[gb165]? = some (.cells #[.int .i64 ((rd_T40 l0 x11_1).f0), .slice A164_1 ((rd_T40 l0 x11_1).f1).length c164_1] 40 (0, 0))) := ⟨by (with_reducible repeat (first | refine blk_drewN ?_ _ | refine blk_drew ?_ | refine blk_alloc ?_ _)); refine blk_put (cs := #[.int .i64 ((rd_T40 l0 x11_1).f0), .slice none 0 0]) ?_ 1 _ rfl; (with_reducible repeat (first | refine blk_drewN ?_ _ | refine blk_drew ?_ | refine blk_alloc ?_ _)); refine blk_put (cs := #[.int .i64 0, .slice none 0 0]) ?_ 0 _ rfl; (with_reducible repeat (first | refine blk_drewN ?_ _ | refine blk_drew ?_ | refine blk_alloc ?_ _)); exact BK165.out⟩
                have n2_ : Aside0 (Below w.heap.size w ((w10.setCell ⟨gb165, 0, none⟩ (.int .i64 ((rd_T40 l0 x11_1).f0))).setCell ⟨gb165, 1, none⟩ (.slice A164_1 ((rd_T40 l0 x11_1).f1).length c164_1))) := ⟨by repeat (first | (with_reducible first | exact HB.out | apply below_alloc | apply pw_below_drewN | apply below_drew1 | refine below_set ?_ GE165.out) | exact HB.out)⟩
                (try clear HO_3)
                (try clear BK165)
                (try clear HB)
                generalize ((w10.setCell ⟨gb165, 0, none⟩ (.int .i64 ((rd_T40 l0 x11_1).f0))).setCell ⟨gb165, 1, none⟩ (.slice A164_1 ((rd_T40 l0 x11_1).f1).length c164_1)) = w12 at n0_ n1_ n2_ ⊢
                have HO_3 := n0_
                have BK165 := n1_
                have HB := n2_
                clear n0_ n1_ n2_
                have n0_ := Aside0.mk (Kd.R_drew HO_3.out)
                have n1_ := Aside0.mk (blk_drew BK165.out)
                have n2_ := Aside0.mk (below_drew1 HB.out)
                clear HO_3
                clear BK165
                clear HB
                have HO_3 := n0_
                have BK165 := n1_
                have HB := n2_
                clear n0_ n1_ n2_
                refine start_ (n := 12) (S := fun w' => w'.cell? ⟨gb165, 0, none⟩ = some (.int .i64 ((rd_T40 l0 x11_1).f0)) ∧ w'.cell? ⟨gb165, 1, none⟩ = some (.slice A164_1 ((rd_T40 l0 x11_1).f1).length c164_1)) (ds := []) #[false, false, false, false, false, false, false, false, false, false, false, false] (by kernel_rfl) rfl rfl ⟨(blk_cell BK165.out 0).trans rfl, (blk_cell BK165.out 1).trans rfl⟩ (fun hHeld => ?_); refine with_tabW dirty_All.tab7 dirty_All.bits7 (fun HT_ HW_ => ?_)
                generalize w12.drew = w13 at HO_3 BK165 HB hHeld ⊢
                refine pure_ (i := 0) (N := some 15) (v := ?_) (a' := ?_) #[true, false, false, false, false, false, false, false, false, false, false, false] rfl rfl (any_of HT_.out (by kernel_rfl)) (fun _ _ _ h => h) (Or.inl ⟨by rfl, ?_⟩) ?_ ?_
                rotate_left
                · intro w'
                  go_simp
                  with_reducible rfl
                rotate_left
                · simp only [Act.put, List.setIfInBounds_toArray, List.set_cons_zero, List.set_cons_succ, i64_w, i32_w]
                  rfl
                refine pure_ (i := 1) (N := some 16) (v := ?_) (a' := ?_) #[true, true, false, false, false, false, false, false, false, false, false, false] rfl rfl (any_of HT_.out (by kernel_rfl)) (fun _ _ _ h => h) (Or.inl ⟨by rfl, ?_⟩) ?_ ?_
                rotate_left
                · intro w'
                  go_simp
                  with_reducible rfl
                rotate_left
                · simp only [Act.put, List.setIfInBounds_toArray, List.set_cons_zero, List.set_cons_succ, i64_w, i32_w]
                  rfl
                refine pure_ (i := 3) (N := some 18) (v := ?_) (a' := ?_) #[true, true, false, true, false, false, false, false, false, false, false, false] rfl rfl (any_of HT_.out (by kernel_rfl)) (fun _ _ _ h => h) (Or.inl ⟨by rfl, ?_⟩) ?_ ?_
                rotate_left
                · intro w'
                  go_simp
                  with_reducible rfl
                rotate_left
                · simp only [Act.put, List.setIfInBounds_toArray, List.set_cons_zero, List.set_cons_succ, i64_w, i32_w]
                  rfl
                refine take_ (i := 2) (N := some 17) (v := ?_) (a' := ?_) #[true, true, true, true, false, false, false, false, false, false, false, false] rfl rfl (take_ofW HT_.out HW_.out (by kernel_rfl)) (fun _ _ _ h => h) (Or.inl ⟨by rfl, ?_⟩) hHeld ?_ ?_
                rotate_left
                · rintro w' ⟨s0, s1⟩
                  go_simp
                  with_reducible rfl
                rotate_left
                · simp only [Act.put, List.setIfInBounds_toArray, List.set_cons_zero, List.set_cons_succ, i64_w, i32_w]
                  rfl
                refine take_ (i := 4) (N := some 19) (v := ?_) (a' := ?_) #[true, true, true, true, true, false, false, false, false, false, false, false] rfl rfl (take_ofW HT_.out HW_.out (by kernel_rfl)) (fun _ _ _ h => h) (Or.inl ⟨by rfl, ?_⟩) hHeld ?_ ?_
                rotate_left
                · rintro w' ⟨s0, s1⟩
                  go_simp
                  with_reducible rfl
                rotate_left
                · simp only [Act.put, List.setIfInBounds_toArray, List.set_cons_zero, List.set_cons_succ, i64_w, i32_w]
                  rfl
                refine pure_ (i := 5) (N := some 20) (v := ?_) (a' := ?_) #[true, true, true, true, true, true, false, false, false, false, false, false] rfl rfl (any_of HT_.out (by kernel_rfl)) (fun _ _ _ h => h) (Or.inl ⟨by rfl, ?_⟩) ?_ ?_
                rotate_left
                · intro w'
                  go_simp
                  with_reducible rfl
                rotate_left
                · simp only [Act.put, List.setIfInBounds_toArray, List.set_cons_zero, List.set_cons_succ, i64_w, i32_w]
                  rfl
                refine pure_ (i := 6) (N := some 21) (v := ?_) (a' := ?_) #[true, true, true, true, true, true, true, false, false, false, false, false] rfl rfl (any_of HT_.out (by kernel_rfl)) (fun _ _ _ h => h) (Or.inl ⟨by rfl, ?_⟩) ?_ ?_
                rotate_left
                · intro w'
                  go_simp
                  with_reducible rfl
                rotate_left
                · simp only [Act.put, List.setIfInBounds_toArray, List.set_cons_zero, List.set_cons_succ, i64_w, i32_w]
                  rfl
                refine pure_ (i := 7) (N := some 22) (v := ?_) (a' := ?_) #[true, true, true, true, true, true, true, true, false, false, false, false] rfl rfl (any_of HT_.out (by kernel_rfl)) (fun _ _ _ h => h) (Or.inl ⟨by rfl, ?_⟩) ?_ ?_
                rotate_left
                · intro w'
                  go_simp
                  with_reducible rfl
                rotate_left
                · simp only [Act.put, List.setIfInBounds_toArray, List.set_cons_zero, List.set_cons_succ, i64_w, i32_w]
                  rfl
                refine pure_ (i := 8) (N := some 23) (v := ?_) (a' := ?_) #[true, true, true, true, true, true, true, true, true, false, false, false] rfl rfl (any_of HT_.out (by kernel_rfl)) (fun _ _ _ h => h) (Or.inl ⟨by rfl, ?_⟩) ?_ ?_
                rotate_left
                · intro w'
                  go_simp
                  with_reducible rfl
                rotate_left
                · simp only [Act.put, List.setIfInBounds_toArray, List.set_cons_zero, List.set_cons_succ, i64_w, i32_w]
                  rfl
                refine one_ (i := 9) (N := some 24) #[true, true, true, true, true, true, true, true, true, true, false, false] rfl rfl (one_of HT_.out (by kernel_rfl)) (by decide) (fun K hK => ?_)
                refine value_ (w1 := ?_) (v := ?_) (by rfl) rfl ?_ ?_
                rotate_left 2
                · go_simp
                  constructor
                  · rfl
                  · rfl
                refine hK.out _ _ ⟨(blk_cell (blk_alloc BK165.out _) 0).trans rfl, (blk_cell (blk_alloc BK165.out _) 1).trans rfl⟩ (fun hHeld => ?_)
                clear hK K
                refine norm_ (a' := ?_) ?_ ?_
                rotate_left
                · show Act.put _ (some 24) _ = _
                  simp only [Act.put, List.setIfInBounds_toArray, List.set_cons_zero, List.set_cons_succ, i64_w, i32_w]
                  rfl
                refine one_ (i := 10) (N := some 25) #[true, true, true, true, true, true, true, true, true, true, true, false] rfl rfl (one_of HT_.out (by kernel_rfl)) (by decide) (fun K hK => ?_)
                refine Kd.R_append_step k48 (w0 := w) w.heap.size (by rfl) (.tmp 15) (.tmp 24) 22 48 (.agg #[(.int .i64 0), (.int .u64 0)]) 16 rfl Tryd.underlying22 info48 rfl (by decide) (by omega) u3 x3_1 (⟨(rd_T40 l0 x11_1).f0, IntKind.u64.wrap ((ji8) - 1)⟩ : S48) [.int .i64 ((rd_T40 l0 x11_1).f0), .int .u64 (IntKind.u64.wrap ((ji8) - 1))] (fun _ => True) (fun _ => False) rfl rfl ?aP (fun _ hk => hk.elim) ?aF ?aO ?aB ?aS ?aL ?_
                (case aP => exact k48_mkM _ _ _ (⟨(rd_T40 l0 x11_1).f0, IntKind.u64.wrap ((ji8) - 1)⟩ : S48))
                (case aB => exact (by repeat (first | (with_reducible first | exact HB.out | apply below_alloc | apply pw_below_drewN | apply below_drew1 | refine below_set ?_ GE165.out) | exact HB.out)))
                (case aF => exact (fun _ _ => trivial))
                (case aO => exact (by (with_reducible repeat (first | apply Kd.R_alloc | apply Kd.R_drewN | apply Kd.R_drew)); exact HO_3.out))
                (case aS => exact (below_size (by repeat (first | (with_reducible first | exact HB.out | apply below_alloc | apply pw_below_drewN | apply below_drew1 | refine below_set ?_ GE165.out) | exact HB.out))))
                (case aL => have := LMc9.out; omega)
                intro v167 w14 ho hb hg hat
                rw [← Ny166.out] at ho
                have n0_ := Aside0.mk (blk_grown (g := gb165) (o := .cells #[.int .i64 ((rd_T40 l0 x11_1).f0), .slice A164_1 ((rd_T40 l0 x11_1).f1).length c164_1] 40 (0, 0)) (by (with_reducible repeat (first | refine blk_drewN ?_ _ | refine blk_drew ?_ | refine blk_alloc ?_ _)); exact BK165.out) hg (Kd.R_ne HO_3.out BK165.out (by decide)))
                have n1_ := Aside0.mk (hb)
                have n2_ := Aside0.mk (ho)
                clear BK165
                clear HB
                clear HO_3
                have BK165 := n0_
                have HB := n1_
                have HO168 := n2_
                clear n0_ n1_ n2_
                clear ho hb hg hat
                refine hK.out _ _ ⟨(blk_cell BK165.out 0).trans rfl, (blk_cell BK165.out 1).trans rfl⟩ (fun hHeld => ?_)
                clear hK K
                refine norm_ (a' := ?_) ?_ ?_
                rotate_left
                · show Act.put _ (some 25) _ = _
                  simp only [Act.put, List.setIfInBounds_toArray, List.set_cons_zero, List.set_cons_succ, i64_w, i32_w]
                  rfl
                refine pure_ (i := 11) (N := some 3) (v := ?_) (a' := ?_) #[true, true, true, true, true, true, true, true, true, true, true, true] rfl rfl (any_of HT_.out (by kernel_rfl)) (fun _ _ _ h => h) (Or.inl ⟨by rfl, ?_⟩) ?_ ?_
                rotate_left
                · intro w'
                  go_simp
                  with_reducible rfl
                rotate_left
                · simp only [Act.put, List.setIfInBounds_toArray, List.set_cons_zero, List.set_cons_succ, i64_w, i32_w]
                  rfl
                refine done_ (done_of HT_.out (by kernel_rfl)) ?_
                try go_wp2
                go_roundg k1
                case measure => have := HK1.out; omega
                case rel => exact ⟨(y166), (wrap64 (x11_1 + 1)), (by first | rfl | (simp; done) | (simp [*]; done)), H', ⟨by have := HK1.out; omega⟩, ⟨by (with_reducible repeat (first | apply Kd.R_alloc | apply Kd.R_drewN | apply Kd.R_drew)); exact HO168.out⟩, ⟨by repeat (first | (with_reducible first | exact HB.out | apply below_alloc | apply pw_below_drewN | apply below_drew1 | refine below_set ?_ GE165.out) | exact HB.out)⟩⟩
              · rw [if_neg c9] at H
                exact absurd H (by simp)
            · rw [if_neg c7] at H
              exact absurd H (by simp)
          · rw [if_neg c6] at H
            exact absurd H (by simp)
        · rw [if_neg c5] at H
          have c5b0 : decide (x11_1 < (l0.length : Int)) = false := decide_eq_false c5
          clear c5
          obtain rfl := Option.some.inj H
          go_wp2
          go_ret
          exact ⟨_, by first | rfl | (simp [errW_none, errW_some] <;> rfl) | (simp [*, errW_none, errW_some] <;> rfl), by (with_reducible repeat (first | apply Kd.R_alloc | apply Kd.R_drewN | apply Kd.R_drew)); exact HO_3.out, by repeat (first | (with_reducible first | exact HB.out | apply below_alloc | apply pw_below_drewN | apply below_drew1) | exact HB.out)⟩
  · replace c3 := Bool.eq_false_iff.mpr c3
    subst c3
    have H1 : (some ([] : List (S48))) = some r := by rw [if_neg (show ¬ (false = true) by decide)] at H; exact H
    clear H
    have H := H1
    clear H1
    obtain rfl := Option.some.inj H
    go_enter Tryd.func22, Tryd.ntmps22
    go_wp2_with (first | ((with_reducible refine gate_callee (f := 20) rfl ?_); refine goesL_ (some 7) rfl rfl Tryd.func20 (by kernel_rfl) rfl #[.slice A0 l0.length c0] rfl (by (try simp only [List.map_toArray, List.map_cons, List.map_nil]); first | done | rfl | (simp only [List.length_drop, List.length_take]; rfl)) ?_; (with_reducible refine (vols_Right.calls k _ _ l0 false _ ?side1 ?side2 A2.out).mono ?_); (case side1 => repeat (first | exact HR0.out | (with_reducible refine Kd.C_alloc ?_ _) | (with_reducible refine Kd.C_drewN ?_ _) | (with_reducible refine Kd.C_drew ?_))); (case side2 => exact HC0.out); rintro e w15 ⟨rfl, hb⟩; refine ⟨_, rfl, ?_⟩; have n0_ := Aside0.mk (below_step (by repeat (first | (with_reducible first | exact HB.out | apply below_alloc | apply pw_below_drewN | apply below_drew1) | exact HB.out)) hb); clear HB; have HB := n0_; clear n0_; (try clear hb); (try clear hb2); (try clear hk); (try clear hi)))
    go_ret
    exact ⟨_, by first | rfl | (simp [errW_none, errW_some] <;> rfl) | (simp [*, errW_none, errW_some] <;> rfl), by first | exact Kd.R_nil _ _ _ _ _ | exact Kd.N_nil _ _ _ _ _ | exact Kd.V_nil _ _ _ _ _ | exact Kd.Q_nil _ _ _ _ _ | exact Kd.S_nil _ _ _ _ _, by repeat (first | (with_reducible first | exact HB.out | apply below_alloc | apply pw_below_drewN | apply below_drew1) | exact HB.out)⟩

/-! ### dirty_Within: function 13 -/
def withinB (T : Nat → Int) (m : List S48) : Bool := m.all fun b => Go.bits .andNot .u64 b.f1 (T b.f0.toNat) == 0
def dirty_Within.f (k : Nat) (l0 : List S48) (l1 : List S40) : Option Bool :=
  (dirty_Right.f k l0).bind fun a => if a = true then ((vols_Right.f k l1).bind fun b => if b = true then ((dirty_All.f k l1).bind fun c => if inB l0 ∧ inB c then some (withinB (sprL [c] 1) l0) else none) else some false) else some false
theorem dirty_Within.mono : ∀ a0 a1 k, LeO (dirty_Within.f k a0 a1) (dirty_Within.f (k + 1) a0 a1) := by
  intro a0 a1 k
  unfold dirty_Within.f
  repeat' first
    | (with_reducible exact LeO.refl _)
    | (with_reducible exact dirty_Right.mono _ _)
    | (with_reducible exact vols_Right.mono _ _)
    | (with_reducible exact dirty_All.mono _ _)
    | (with_reducible refine LeO.ite ?_ ?_)
    | (with_reducible refine LeO.bind ?_ (fun _ => ?_))
set_option maxHeartbeats 4000000 in
set_option maxRecDepth 100000 in
theorem dirty_Within.calls (k : Nat) (A0 : Option Addr) (c0 : Nat) (l0 : List S48) (A1 : Option Addr) (c1 : Nat) (l1 : List S40) (r : Bool) (w : World) (hr0 : Kd.C k48 w A0 l0.length l0) (hc0 : l0.length ≤ c0) (hr1 : Kd.C k40 w A1 l1.length l1) (hc1 : l1.length ≤ c1) (h : dirty_Within.f k l0 l1 = some r) :
    Calls Tryd.prog 13 #[.slice A0 l0.length c0, .slice A1 l1.length c1] w fun e w' => e = .returned (.bool r) ∧ Below w.heap.size w w' := by
  have HR0 := Aside0.mk hr0
  have HR1 := Aside0.mk hr1
  have HC0 := Aside0.mk hc0
  have HC1 := Aside0.mk hc1
  clear hr0 hr1 hc0 hc1
  unfold dirty_Within.f at h
  replace h := Option.bind_eq_some_iff.1 h
  obtain ⟨a, ha, h⟩ := h
  have HA := Aside0.mk ha
  have H := Aside0.mk h
  clear ha h
  go_enter Tryd.func13, Tryd.ntmps13
  go_wp2_with fail
  (with_reducible refine (dirty_Right.calls k _ _ l0 a _ HR0.out HC0.out HA.out).mono ?_)
  rintro e w1 ⟨rfl, hb⟩
  have HB1 := Aside0.mk hb
  clear hb HA
  cases a with
  | false =>
    have h := H.out
    rw [if_neg (by decide)] at h
    obtain rfl := Option.some.inj h
    clear H
    go_wp2
    go_ret
    exact ⟨rfl, HB1.out⟩
  | true =>
    have h := H.out
    rw [if_pos rfl] at h
    clear H
    replace h := Option.bind_eq_some_iff.1 h
    obtain ⟨b, hb, h⟩ := h
    have HA := Aside0.mk hb
    have H := Aside0.mk h
    clear hb h
    go_wp2_with fail
    (with_reducible refine (vols_Right.calls k _ _ l1 b _ (Kd.C_below HR1.out HB1.out) HC1.out HA.out).mono ?_)
    rintro e w2 ⟨rfl, hb⟩
    have HB2 := Aside0.mk (below_step HB1.out hb)
    clear hb HA HB1
    cases b with
    | false =>
      have h := H.out
      rw [if_neg (by decide)] at h
      obtain rfl := Option.some.inj h
      clear H
      go_wp2
      go_ret
      exact ⟨rfl, HB2.out⟩
    | true =>
      have h := H.out
      rw [if_pos rfl] at h
      clear H
      replace h := Option.bind_eq_some_iff.1 h
      obtain ⟨c, hb, h⟩ := h
      have HA := Aside0.mk hb
      by_cases hin : inB l0 ∧ inB c
      · rw [if_pos hin] at h
        have HIN := Aside0.mk hin
        have H := Aside0.mk (Option.some.inj h)
        clear hb h hin
        go_wp2_with fail
        (with_reducible refine (dirty_All.calls k _ _ l1 c _ (Kd.C_below HR1.out HB2.out) HC1.out HA.out).mono ?_)
        rintro e w3 ⟨v0, rfl, hr, hb⟩
        obtain ⟨AA, cc, rfl, hle, hC⟩ := Kd.R_reads hr
        have HB3 := Aside0.mk (below_step HB2.out hb)
        have HRC := Aside0.mk hC
        clear hb HA HB2 hr hle hC HR1 HC1
        have HB4 := Aside0.mk (below_alloc HB3.out (.cells #[.slice AA c.length cc] 22 (0, 0)))
        have BL := Aside0.mk (blk_new w3 (.cells #[.slice AA c.length cc] 22 (0, 0)))
        have HL : Aside0 (∀ (j : Nat) (h : j < [c].length), ∃ A c', (w3.alloc (.cells #[.slice AA c.length cc] 22 (0, 0))).cell? ⟨w3.heap.size, j, none⟩ = some (.slice A ([c][j]).length c') ∧ Kd.C k48 (w3.alloc (.cells #[.slice AA c.length cc] 22 (0, 0))) A ([c][j]).length [c][j]) := ⟨by
          intro j hj
          match j, hj with
          | 0, _ => exact ⟨AA, cc, (blk_cell BL.out 0).trans rfl, Kd.C_below HRC.out (below_alloc (Below.refl _ _) _)⟩⟩
        have HLen : Aside0 ([c].length ≤ 4611686018427387904) := ⟨by show 1 ≤ 4611686018427387904; decide⟩
        have HV : Aside0 (∀ m ∈ [c], inB m) := ⟨by
          intro m hm
          rw [List.mem_singleton.1 hm]; exact HIN.out.2⟩
        go_wp2_with fail
        (with_reducible refine (dirty_spread.calls w3.heap.size 1 1 [c] _ rfl HLen.out HL.out HV.out).mono ?_)
        rintro e w4 ⟨rfl, hg, hb⟩
        have HG : Aside0 (w4.heap[w3.heap.size + 1]? = some (.cells (mrow (sprL [c] 1)) 56 (0, 0))) := ⟨by simpa using hg⟩
        have HB5 := Aside0.mk (below_step HB4.out hb)
        clear hg hb HL HLen HV BL HB4 HRC
        obtain ⟨T, hT⟩ : ∃ T, T = sprL [c] 1 := ⟨_, rfl⟩
        rw [← hT] at HG H
        clear hT
        have HGB : Aside0 (w.heap.size ≤ w3.heap.size + 1) := ⟨by have := HB3.out.size; omega⟩
        have hgs : (w3.alloc (.cells #[.slice AA c.length cc] 22 (0, 0))).heap.size = w3.heap.size + 1 := by simp
        try rw [hgs]
        clear hgs HB3
        generalize w3.heap.size + 1 = gt at HG HGB ⊢
        have HHI := HIN.out.1
        replace HIN := Aside0.mk HHI
        clear HHI
        have hmax : l0.length ≤ 9223372036854775807 := HR0.out.2.1
        have H0 : Aside0 (withinB T (l0.drop 0) = r) := H
        clear H
        go_wp2
        go_loopw [22] (fun i wr => ∃ i' : Nat, i' ≤ l0.length ∧ i = .int .i64 i' ∧ Aside0 (withinB T (l0.drop i') = r) ∧ Aside0 (wr.heap[gt]? = some (.cells (mrow T) 56 (0, 0))) ∧ Aside0 (Below w.heap.size w wr)) (fun i _ => l0.length - (intOf i).toNat)
        case atStart => exact ⟨0, by omega, rfl, H0, HG, HB5⟩
        case round =>
          clear H0 HG HB5
          obtain ⟨i, hi, rfl, H, HG, HB5⟩ := hrel
          by_cases hi2 : i < l0.length
          · have c3 : decide ((i : Int) < (l0.length : Int)) = true := decide_eq_true (by omega)
            have d5 : (0 : Int) ≤ (i : Int) := by omega
            have d6 : (i : Int) < (l0.length : Int) := by omega
            obtain ⟨b, hb⟩ : ∃ b, b = rd_T48 l0 (i : Int) := ⟨_, rfl⟩
            have HD : Aside0 (withinB T (l0.drop i) = ((Go.bits .andNot .u64 b.f1 (T b.f0.toNat) == 0) && withinB T (l0.drop (i + 1)))) := ⟨by
              rw [hb, List.drop_eq_getElem_cons hi2]
              have hd : rd_T48 l0 (i : Int) = l0[i] := by
                unfold rd_T48
                rw [Int.toNat_natCast, List.getD_eq_getElem?_getD, List.getElem?_eq_getElem hi2]
                rfl
              rw [hd]
              rfl⟩
            obtain ⟨d7, d8⟩ := HIN.out b (hb ▸ rd_mem l0 i hi2)
            obtain ⟨v, hv⟩ := Int.eq_ofNat_of_zero_le d7
            obtain ⟨ad, hA, x0, x1⟩ := at_T48 HR0.out (i : Int) d5 d6
            rw [← hb, hv] at x0
            rw [← hb] at x1
            rw [Int.toNat_natCast] at x0 x1
            subst hA
            replace x0 := (HB5.out.cell (World.block_lt_of_cell? w _ x0)).trans x0
            replace x1 := (HB5.out.cell (World.block_lt_of_cell? w _ x1)).trans x1
            have d4 : v < 256 := by omega
            have d9 : (0 : Int) ≤ (v : Int) := by omega
            have d10 : (v : Int) < 256 := by omega
            rw [hv, Int.toNat_natCast] at HD
            clear hb hv d7 d8
            have HT := Aside0.mk (blk_alloc HG.out (.cells #[.int .i64 (v : Int), .int .u64 b.f1] 48 (0, 0)))
            have HBb := Aside0.mk (blk_new wr (.cells #[.int .i64 (v : Int), .int .u64 b.f1] 48 (0, 0)))
            have HW := Aside0.mk (below_alloc HB5.out (.cells #[.int .i64 (v : Int), .int .u64 b.f1] 48 (0, 0)))
            clear HG HB5
            go_upto_region 7 with (fail)
            replace HT := Aside0.mk (blk_drew HT.out)
            replace HBb := Aside0.mk (blk_drew HBb.out)
            replace HW := Aside0.mk (below_drew1 HW.out)
            generalize wr.alloc (.cells #[.int .i64 (v : Int), .int .u64 b.f1] 48 (0, 0)) = Wb at HT HBb HW ⊢
            generalize wr.heap.size = gb at HBb ⊢
            refine start_ (n := 10) (S := fun w' => w'.cell? ⟨gb, 0, none⟩ = some (.int .i64 (v : Int)) ∧ w'.cell? ⟨gb, 1, none⟩ = some (.int .u64 b.f1) ∧ w'.cell? ⟨gt, v, none⟩ = some (.int .u64 (T v))) (ds := []) #[false, false, false, false, false, false, false, false, false, false] (by kernel_rfl) rfl rfl ⟨(blk_cell HBb.out 0).trans rfl, (blk_cell HBb.out 1).trans rfl, mrow_cell HT.out v d4⟩ (fun hHeld => ?_)
            generalize World.drew Wb = V at HT HBb HW hHeld ⊢
            refine pure_ (i := 0) (N := some 26) (v := ?_) (a' := ?_) #[true, false, false, false, false, false, false, false, false, false] rfl rfl (by kernel_rfl) (fun _ _ _ h => h) (Or.inl ⟨by rfl, ?_⟩) ?_ ?_
            rotate_left
            · intro w'
              go_simp
              with_reducible rfl
            rotate_left
            · simp only [Act.put, List.setIfInBounds_toArray, List.set_cons_zero, List.set_cons_succ, i64_w, i32_w]
              rfl
            refine pure_ (i := 2) (N := some 28) (v := ?_) (a' := ?_) #[true, false, true, false, false, false, false, false, false, false] rfl rfl (by kernel_rfl) (fun _ _ _ h => h) (Or.inl ⟨by rfl, ?_⟩) ?_ ?_
            rotate_left
            · intro w'
              go_simp
              with_reducible rfl
            rotate_left
            · simp only [Act.put, List.setIfInBounds_toArray, List.set_cons_zero, List.set_cons_succ, i64_w, i32_w]
              rfl
            refine pure_ (i := 3) (N := some 29) (v := ?_) (a' := ?_) #[true, false, true, true, false, false, false, false, false, false] rfl rfl (by kernel_rfl) (fun _ _ _ h => h) (Or.inl ⟨by rfl, ?_⟩) ?_ ?_
            rotate_left
            · intro w'
              go_simp
              with_reducible rfl
            rotate_left
            · simp only [Act.put, List.setIfInBounds_toArray, List.set_cons_zero, List.set_cons_succ, i64_w, i32_w]
              rfl
            refine pure_ (i := 5) (N := some 31) (v := ?_) (a' := ?_) #[true, false, true, true, false, true, false, false, false, false] rfl rfl (by kernel_rfl) (fun _ _ _ h => h) (Or.inl ⟨by rfl, ?_⟩) ?_ ?_
            rotate_left
            · intro w'
              go_simp
              with_reducible rfl
            rotate_left
            · simp only [Act.put, List.setIfInBounds_toArray, List.set_cons_zero, List.set_cons_succ, i64_w, i32_w]
              rfl
            refine take_ (i := 1) (N := some 27) (v := ?_) (a' := ?_) #[true, true, true, true, false, true, false, false, false, false] rfl rfl (by kernel_rfl) (fun _ _ _ h => h) (Or.inl ⟨by rfl, ?_⟩) hHeld ?_ ?_
            rotate_left
            · rintro w' ⟨s0, s1, s2⟩
              go_simp
              with_reducible rfl
            rotate_left
            · simp only [Act.put, List.setIfInBounds_toArray, List.set_cons_zero, List.set_cons_succ, i64_w, i32_w]
              rfl
            refine take_ (i := 4) (N := some 30) (v := ?_) (a' := ?_) #[true, true, true, true, true, true, false, false, false, false] rfl rfl (by kernel_rfl) (fun _ _ _ h => h) (Or.inl ⟨by rfl, ?_⟩) hHeld ?_ ?_
            rotate_left
            · rintro w' ⟨s0, s1, s2⟩
              go_simp
              with_reducible rfl
            rotate_left
            · simp only [Act.put, List.setIfInBounds_toArray, List.set_cons_zero, List.set_cons_succ, i64_w, i32_w]
              rfl
            refine pure_ (i := 6) (N := some 32) (v := ?_) (a' := ?_) #[true, true, true, true, true, true, true, false, false, false] rfl rfl (by kernel_rfl) (fun _ _ _ h => h) (Or.inl ⟨by rfl, ?_⟩) ?_ ?_
            rotate_left
            · intro w'
              go_simp
              with_reducible rfl
            rotate_left
            · simp only [Act.put, List.setIfInBounds_toArray, List.set_cons_zero, List.set_cons_succ, i64_w, i32_w]
              rfl
            refine take_ (i := 7) (N := some 33) (v := ?_) (a' := ?_) #[true, true, true, true, true, true, true, true, false, false] rfl rfl (by kernel_rfl) (fun _ _ _ h => h) (Or.inl ⟨by rfl, ?_⟩) hHeld ?_ ?_
            rotate_left
            · rintro w' ⟨s0, s1, s2⟩
              go_simp
              with_reducible rfl
            rotate_left
            · simp only [Act.put, List.setIfInBounds_toArray, List.set_cons_zero, List.set_cons_succ, i64_w, i32_w]
              rfl
            refine pure_ (i := 8) (N := some 34) (v := ?_) (a' := ?_) #[true, true, true, true, true, true, true, true, true, false] rfl rfl (by kernel_rfl) (fun _ _ _ h => h) (Or.inl ⟨by rfl, ?_⟩) ?_ ?_
            rotate_left
            · intro w'
              go_simp
              with_reducible rfl
            rotate_left
            · simp only [Act.put, List.setIfInBounds_toArray, List.set_cons_zero, List.set_cons_succ, i64_w, i32_w]
              rfl
            refine pure_ (i := 9) (N := some 35) (v := ?_) (a' := ?_) #[true, true, true, true, true, true, true, true, true, true] rfl rfl (by kernel_rfl) (fun _ _ _ h => h) (Or.inl ⟨by rfl, ?_⟩) ?_ ?_
            rotate_left
            · intro w'
              go_simp
              with_reducible rfl
            rotate_left
            · simp only [Act.put, List.setIfInBounds_toArray, List.set_cons_zero, List.set_cons_succ, i64_w, i32_w]
              rfl
            refine done_ (by kernel_rfl) ?_
            by_cases hz : Go.bits .andNot .u64 b.f1 (T v) = 0
            · have c2 : (Go.bits .andNot .u64 b.f1 (T v) != 0) = false := bne_eq_false_iff_eq.2 hz
              have h := H.out
              rw [HD.out, hz] at h
              have h2 : withinB T (l0.drop (i + 1)) = r := h
              replace h2 := Aside0.mk h2
              clear h H HD hz
              go_wp2
              go_roundw
              case rel => exact ⟨i + 1, by omega, by go_num, h2, HT, HW⟩
              case measure => simp [intOf]; omega
            · have c2 : (Go.bits .andNot .u64 b.f1 (T v) != 0) = true := bne_iff_ne.2 hz
              have h := H.out
              rw [HD.out, show (Go.bits .andNot .u64 b.f1 (T v) == 0) = false from beq_eq_false_iff_ne.2 hz, Bool.false_and] at h
              subst h
              clear H HD hz
              go_wp2
              go_ret
              exact ⟨rfl, HW.out⟩
          · obtain rfl : i = l0.length := by omega
            have h := H.out
            rw [List.drop_length] at h
            have h2 : true = r := h
            subst h2
            clear H h
            go_wp2
            go_ret
            exact ⟨rfl, HB5.out⟩
      · rw [if_neg hin] at h
        cases h


end Go.Proofs.YtcigkejiompieaaDoor.P
