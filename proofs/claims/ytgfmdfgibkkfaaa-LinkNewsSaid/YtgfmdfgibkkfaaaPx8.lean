-- Printed by this session's own program wip/mprint.py
import Derived.Test.YtgfmdfgibkkfaaaPx0
import Derived.Test.YtgfmdfgibkkfaaaPx3
import Derived.Test.YtgfmdfgibkkfaaaPx4
namespace Go.Proofs.Ytgfmdfgibkkfaaa.P
open Go.RowKit Go.Proofs.YtgfmdfgibkkfaaaW.PrintWords Go.Proofs.YtgfmdfgibkkfaaaW.PrintLast Go.Proofs.YtgfmdfgibkkfaaaW.PrintMore
attribute [local go_sem] max2_int min2_int max_two min_two max_three min_three max_four min_four   -- for this text's walks alone
set_option linter.unusedVariables false
set_option linter.unusedSimpArgs false

/-! ### counterfoillaw15_LinkNews: function 4 -/
def counterfoillaw15_LinkNews.j0 : Nat → Int → Int → Bool → Int → Int → Int → List ByteArray → Int → Option (Bool)
  | 0, _, _, _, _, _, _, _, _ => none
  | k + 1, x0, x4, x15, x304000, x304001, x304002, x304003, x304004 => if x15 = true then ((counterfoillaw15_ref.f x304000 x304001 x304002 x304003 x304004).bind fun bt304 => ((counterfoilref15_Equal.f k bt304.1 bt304.2.1 bt304.2.2.1 bt304.2.2.2.1 bt304.2.2.2.2 0 0 0 0 ([] : List ByteArray)).bind fun t311 => (if t311 = true then (if x4 = 1 then ((counterfoillaw15_awake.f k).bind fun t312 => (some t312)) else (some false)) else (some false)))) else ((counterfoillaw15_ref.f x304000 x304001 x304002 x304003 x304004).bind fun bt313 => ((counterfoilref15_Equal.f k bt313.1 bt313.2.1 bt313.2.2.1 bt313.2.2.2.1 bt313.2.2.2.2 x0 0 1 1 ([] : List ByteArray)).bind fun t320 => (if t320 = true then (if x4 = 0 then ((counterfoillaw15_awake.f k).bind fun t321 => (some t321)) else (some false)) else (some false))))
def counterfoillaw15_LinkNews.f (k : Nat) (a0 : Int) : Option (Bool) := (link_New.f a0).bind fun bt295 => (if a0 < 1 then (counterfoillaw15_LinkNews.j0 k a0 bt295.2.2.2.2.2 true bt295.1 bt295.2.1 bt295.2.2.1 bt295.2.2.2.1 bt295.2.2.2.2.1) else (counterfoillaw15_LinkNews.j0 k a0 bt295.2.2.2.2.2 (decide (a0 > 1099511627776)) bt295.1 bt295.2.1 bt295.2.2.1 bt295.2.2.2.1 bt295.2.2.2.2.1))
theorem counterfoillaw15_LinkNews.mono_l : ∀ k, (∀ y0 y1 y2 y3 y4 y5 y6 y7, LeO (counterfoillaw15_LinkNews.j0 k y0 y1 y2 y3 y4 y5 y6 y7) (counterfoillaw15_LinkNews.j0 (k + 1) y0 y1 y2 y3 y4 y5 y6 y7))
  | 0 => fun _ _ _ _ _ _ _ _ r h => by simp [counterfoillaw15_LinkNews.j0] at h
  | k + 1 => by
    have ih0 := counterfoillaw15_LinkNews.mono_l k
    · intro y0 y1 y2 y3 y4 y5 y6 y7
      unfold counterfoillaw15_LinkNews.j0
      repeat' first
      | (with_reducible exact ih0 _ _ _ _ _ _ _ _)
      | (with_reducible exact counterfoillaw15_awake.mono _)
      | (with_reducible exact counterfoilref15_Equal.mono _ _ _ _ _ _ _ _ _ _ _)
      | (with_reducible exact LeO.refl _)
      | (with_reducible exact LeO.none _)
      | (with_reducible refine LeO.ite ?_ ?_)
      | (with_reducible refine LeO.bind ?_ (fun _ => ?_))
      | exact ih0 _ _ _ _ _ _ _ _
      | exact counterfoillaw15_awake.mono _
      | exact counterfoilref15_Equal.mono _ _ _ _ _ _ _ _ _ _ _
      | exact LeO.none _
      | refine LeO.ite ?_ ?_
      | refine LeO.bind ?_ (fun _ => ?_)
theorem counterfoillaw15_LinkNews.mono : ∀ a0 k, LeO (counterfoillaw15_LinkNews.f k a0) (counterfoillaw15_LinkNews.f (k + 1) a0) := by
  intro a0 k
  have ih0 := counterfoillaw15_LinkNews.mono_l k
  unfold counterfoillaw15_LinkNews.f
  repeat' first
      | (with_reducible exact ih0 _ _ _ _ _ _ _ _)
      | (with_reducible exact counterfoillaw15_awake.mono _)
      | (with_reducible exact counterfoilref15_Equal.mono _ _ _ _ _ _ _ _ _ _ _)
      | (with_reducible exact LeO.refl _)
      | (with_reducible exact LeO.none _)
      | (with_reducible refine LeO.ite ?_ ?_)
      | (with_reducible refine LeO.bind ?_ (fun _ => ?_))
      | exact ih0 _ _ _ _ _ _ _ _
      | exact counterfoillaw15_awake.mono _
      | exact counterfoilref15_Equal.mono _ _ _ _ _ _ _ _ _ _ _
      | exact LeO.none _
      | refine LeO.ite ?_ ?_
      | refine LeO.bind ?_ (fun _ => ?_)
set_option maxHeartbeats 8000000 in
set_option maxRecDepth 100000 in
theorem counterfoillaw15_LinkNews.calls (k : Nat) (a0 : Int) (r : Bool) (w : World) (hr_ : r = true) (h : counterfoillaw15_LinkNews.f k a0 = some r) :
    Calls Try.prog 4 #[.int .i64 a0] w fun e w' => e = .returned (.bool r) ∧ Below w.heap.size w w' := by
  have hu24 := Try.underlying24
  have hu33 := Try.underlying33
  have HB := Aside0.mk (Below.refl w.heap.size w)
  have H : ((link_New.f a0).bind fun bt295 => (if a0 < 1 then (counterfoillaw15_LinkNews.j0 k a0 bt295.2.2.2.2.2 true bt295.1 bt295.2.1 bt295.2.2.1 bt295.2.2.2.1 bt295.2.2.2.2.1) else (counterfoillaw15_LinkNews.j0 k a0 bt295.2.2.2.2.2 (decide (a0 > 1099511627776)) bt295.1 bt295.2.1 bt295.2.2.1 bt295.2.2.2.1 bt295.2.2.2.2.1))) = some r := h
  clear h
  replace H := Option.bind_eq_some_iff.mp H
  obtain ⟨⟨t295, t296, t297, t298, t301, t302⟩, A20, H⟩ := H
  replace H : (if a0 < 1 then (counterfoillaw15_LinkNews.j0 k a0 t302 true t295 t296 t297 t298 t301) else (counterfoillaw15_LinkNews.j0 k a0 t302 (decide (a0 > 1099511627776)) t295 t296 t297 t298 t301)) = some r := H
  have A2 := Aside0.mk A20
  clear A20
  have HC3 := Aside0.mk H
  clear H
  go_enter Try.func4, Try.ntmps4
  go_upto_region 2 with (first | ((with_reducible refine gate_callee (f := 21) rfl ?_); refine goesL_ (some 7) rfl rfl Try.func21 (by kernel_rfl) rfl #[.int .i64 a0] rfl (by (try simp only [List.map_toArray, List.map_cons, List.map_nil]); first | done | rfl | (simp only [List.length_drop, List.length_take]; rfl)) ?_; (with_reducible refine (link_New.calls a0 t295 t296 t297 t298 t301 t302 _ A2.out).mono ?_); rintro e w4 ⟨v299, rfl, ho0, hb⟩; refine ⟨_, rfl, ?_⟩; have n0_ := Aside0.mk (Kd.R_lower ho0 (below_size (by repeat (first | (with_reducible first | exact HB.out | apply below_alloc | apply pw_below_drewN | apply below_drew1) | exact HB.out)))); have n1_ := Aside0.mk (below_step (by repeat (first | (with_reducible first | exact HB.out | apply below_alloc | apply pw_below_drewN | apply below_drew1) | exact HB.out)) hb); clear HB; have HO300 := n0_; have HB := n1_; clear n0_ n1_; (try clear hb); (try clear hb2); (try clear hk); (try clear hi); (try clear ho0)) | ((with_reducible refine gate_dst (N := 3) rfl ?_); refine box_event ?hg (N := 3) ?hd (cs := #[.int .i64 0, .int .i64 0, .int .i64 0, .slice none 0 0, .int .i64 0]) (t := 24) ?hr ?_; (case hd => rfl); (case hg => rfl); (case hr => first | (go_simp; done) | (go_simp; rfl) | (go_simp; simp only [w64m])); intro gb303 hg w5 hbox hb; have n0_ := Aside0.mk (Kd.R_below (by (with_reducible repeat (first | apply Kd.R_alloc | apply Kd.R_drewN | apply Kd.R_drew)); exact HO300.out) hb); have n1_ := Aside0.mk (below_step (by repeat (first | (with_reducible first | exact HB.out | apply below_alloc | apply pw_below_drewN | apply below_drew1) | exact HB.out)) hb); have n2_ := Aside0.mk (hbox); have n3_ := Aside0.mk ((by rw [hg]; exact (below_size (by repeat (first | (with_reducible first | exact HB.out | apply below_alloc | apply pw_below_drewN | apply below_drew1) | exact HB.out))) : w.heap.size ≤ gb303)); have n4_ := Aside0.mk ((by rw [hg]; exact (below_size (by repeat (first | (with_reducible first | exact HB.out | apply below_alloc | apply pw_below_drewN | apply below_drew1) | exact HB.out))) : w.heap.size ≤ gb303)); clear HO300; clear HB; have HO300 := n0_; have HB := n1_; have BK303 := n2_; have GW303 := n3_; have GE303 := n4_; clear n0_ n1_ n2_ n3_ n4_; clear hb hbox hg; have hcz6_0 : w5.cell? ⟨gb303, 0, none⟩ = some (.int .i64 0) := (blk_cell BK303.out 0).trans rfl; have hcz6_1 : w5.cell? ⟨gb303, 1, none⟩ = some (.int .i64 0) := (blk_cell BK303.out 1).trans rfl; have hcz6_2 : w5.cell? ⟨gb303, 2, none⟩ = some (.int .i64 0) := (blk_cell BK303.out 2).trans rfl; have hcz6_3 : w5.cell? ⟨gb303, 3, none⟩ = some (.slice none 0 0) := (blk_cell BK303.out 3).trans rfl; have hcz6_4 : w5.cell? ⟨gb303, 4, none⟩ = some (.int .i64 0) := (blk_cell BK303.out 4).trans rfl; have hfz6_0 := blk_frozen BK303.out 0; have hfz6_1 := blk_frozen BK303.out 1; have hfz6_2 := blk_frozen BK303.out 2; have hfz6_3 := blk_frozen BK303.out 3; have hfz6_4 := blk_frozen BK303.out 4; obtain ⟨Ao7, co7, eo7⟩ := Kd.R_slice HO300.out; subst eo7))
  (try simp only [Act.put, List.setIfInBounds_toArray, List.set_cons_zero, List.set_cons_succ])
  go_cut [15] (fun v15 wc => ∃ (kq : Nat) (x15_2 : Bool), v15 = .bool x15_2 ∧ Aside0 (counterfoillaw15_LinkNews.j0 kq a0 t302 x15_2 t295 t296 t297 t298 t301 = some r) ∧ Aside0 (kq ≤ k) ∧ Aside0 (Kd.R Kd.string 9 wc w.heap.size (fun _ => True) (.slice Ao7 t298.length co7) t298) ∧ Aside0 (wc.heap[gb303]? = some (.cells #[.int .i64 t295, .int .i64 t296, .int .i64 t297, (.slice Ao7 t298.length co7), .int .i64 t301] 24 (0, 0))) ∧ Aside0 (Below w.heap.size w wc))
  case first =>
    have H := HC3.out
    clear HC3
    by_cases c8 : a0 < 1
    · rw [if_pos c8] at H
      have c8b0 : decide (a0 < 1) = true := decide_eq_true c8
      clear c8
      (first | rw [c8b0] | (simp only [i64_w, i32_w]; rw [c8b0]) | skip)
      have H' := Aside0.mk H
      clear H
      go_wp2
      go_meet
      case rel => exact ⟨_, (true), (by first | rfl | (simp; done) | (simp [*]; done)), H', ⟨by first | omega | exact Nat.le_refl _⟩, ⟨by (with_reducible repeat (first | apply Kd.R_alloc | apply Kd.R_drewN | apply Kd.R_drew)); exact Kd.R_mono (Kd.R_far (p := ⟨gb303, 4, none⟩) (Kd.R_far (p := ⟨gb303, 3, none⟩) (Kd.R_far (p := ⟨gb303, 2, none⟩) (Kd.R_far (p := ⟨gb303, 1, none⟩) (Kd.R_far (p := ⟨gb303, 0, none⟩) (Kd.R_types HO300.out BK303.out (by decide)) (fun _ hk => hk.2) (.int .i64 t295)) (fun _ hk => hk.2) (.int .i64 t296)) (fun _ hk => hk.2) (.int .i64 t297)) (fun _ hk => hk.2) (.slice Ao7 t298.length co7)) (fun _ hk => hk.2) (.int .i64 t301)) (fun _ hk => trivial)⟩, ⟨by (with_reducible repeat (first | refine blk_drewN ?_ _ | refine blk_drew ?_ | refine blk_alloc ?_ _)); refine blk_put (cs := #[.int .i64 t295, .int .i64 t296, .int .i64 t297, .slice Ao7 t298.length co7, .int .i64 0]) ?_ 4 _ rfl; (with_reducible repeat (first | refine blk_drewN ?_ _ | refine blk_drew ?_ | refine blk_alloc ?_ _)); refine blk_put (cs := #[.int .i64 t295, .int .i64 t296, .int .i64 t297, .slice none 0 0, .int .i64 0]) ?_ 3 _ rfl; (with_reducible repeat (first | refine blk_drewN ?_ _ | refine blk_drew ?_ | refine blk_alloc ?_ _)); refine blk_put (cs := #[.int .i64 t295, .int .i64 t296, .int .i64 0, .slice none 0 0, .int .i64 0]) ?_ 2 _ rfl; (with_reducible repeat (first | refine blk_drewN ?_ _ | refine blk_drew ?_ | refine blk_alloc ?_ _)); refine blk_put (cs := #[.int .i64 t295, .int .i64 0, .int .i64 0, .slice none 0 0, .int .i64 0]) ?_ 1 _ rfl; (with_reducible repeat (first | refine blk_drewN ?_ _ | refine blk_drew ?_ | refine blk_alloc ?_ _)); refine blk_put (cs := #[.int .i64 0, .int .i64 0, .int .i64 0, .slice none 0 0, .int .i64 0]) ?_ 0 _ rfl; (with_reducible repeat (first | refine blk_drewN ?_ _ | refine blk_drew ?_ | refine blk_alloc ?_ _)); exact BK303.out⟩, ⟨by repeat (first | (with_reducible first | exact HB.out | apply below_alloc | apply pw_below_drewN | apply below_drew1 | refine below_set ?_ GE303.out) | exact HB.out)⟩⟩
    · rw [if_neg c8] at H
      have c8b0 : decide (a0 < 1) = false := decide_eq_false c8
      clear c8
      (first | rw [c8b0] | (simp only [i64_w, i32_w]; rw [c8b0]) | skip)
      have H' := Aside0.mk H
      clear H
      go_wp2
      go_meet
      case rel => exact ⟨_, (decide (a0 > 1099511627776)), (by first | rfl | (simp; done) | (simp [*]; done)), H', ⟨by first | omega | exact Nat.le_refl _⟩, ⟨by (with_reducible repeat (first | apply Kd.R_alloc | apply Kd.R_drewN | apply Kd.R_drew)); exact Kd.R_mono (Kd.R_far (p := ⟨gb303, 4, none⟩) (Kd.R_far (p := ⟨gb303, 3, none⟩) (Kd.R_far (p := ⟨gb303, 2, none⟩) (Kd.R_far (p := ⟨gb303, 1, none⟩) (Kd.R_far (p := ⟨gb303, 0, none⟩) (Kd.R_types HO300.out BK303.out (by decide)) (fun _ hk => hk.2) (.int .i64 t295)) (fun _ hk => hk.2) (.int .i64 t296)) (fun _ hk => hk.2) (.int .i64 t297)) (fun _ hk => hk.2) (.slice Ao7 t298.length co7)) (fun _ hk => hk.2) (.int .i64 t301)) (fun _ hk => trivial)⟩, ⟨by (with_reducible repeat (first | refine blk_drewN ?_ _ | refine blk_drew ?_ | refine blk_alloc ?_ _)); refine blk_put (cs := #[.int .i64 t295, .int .i64 t296, .int .i64 t297, .slice Ao7 t298.length co7, .int .i64 0]) ?_ 4 _ rfl; (with_reducible repeat (first | refine blk_drewN ?_ _ | refine blk_drew ?_ | refine blk_alloc ?_ _)); refine blk_put (cs := #[.int .i64 t295, .int .i64 t296, .int .i64 t297, .slice none 0 0, .int .i64 0]) ?_ 3 _ rfl; (with_reducible repeat (first | refine blk_drewN ?_ _ | refine blk_drew ?_ | refine blk_alloc ?_ _)); refine blk_put (cs := #[.int .i64 t295, .int .i64 t296, .int .i64 0, .slice none 0 0, .int .i64 0]) ?_ 2 _ rfl; (with_reducible repeat (first | refine blk_drewN ?_ _ | refine blk_drew ?_ | refine blk_alloc ?_ _)); refine blk_put (cs := #[.int .i64 t295, .int .i64 0, .int .i64 0, .slice none 0 0, .int .i64 0]) ?_ 1 _ rfl; (with_reducible repeat (first | refine blk_drewN ?_ _ | refine blk_drew ?_ | refine blk_alloc ?_ _)); refine blk_put (cs := #[.int .i64 0, .int .i64 0, .int .i64 0, .slice none 0 0, .int .i64 0]) ?_ 0 _ rfl; (with_reducible repeat (first | refine blk_drewN ?_ _ | refine blk_drew ?_ | refine blk_alloc ?_ _)); exact BK303.out⟩, ⟨by repeat (first | (with_reducible first | exact HB.out | apply below_alloc | apply pw_below_drewN | apply below_drew1 | refine below_set ?_ GE303.out) | exact HB.out)⟩⟩
  case rest =>
    clear HC3
    try clear c2
    try clear p2
    try clear c4
    try clear c8
    try clear c8b0
    try clear hcz6_0
    try clear hcz6_1
    try clear hcz6_2
    try clear hcz6_3
    try clear hcz6_4
    try clear hfz6_0
    try clear hfz6_1
    try clear hfz6_2
    try clear hfz6_3
    try clear hfz6_4
    obtain ⟨kq, x15_2, rfl, HA, HJ2, HO_304003, BK303, HB⟩ := hcut
    cases kq with
    | zero => exact absurd HA.out (by simp [counterfoillaw15_LinkNews.j0])
    | succ kj2 =>
      have H := HA.out
      clear HA
      simp only [counterfoillaw15_LinkNews.j0] at H
      by_cases c9 : x15_2 = true
      · subst c9
        have H1 : ((counterfoillaw15_ref.f t295 t296 t297 t298 t301).bind fun bt304 => ((counterfoilref15_Equal.f kj2 bt304.1 bt304.2.1 bt304.2.2.1 bt304.2.2.2.1 bt304.2.2.2.2 0 0 0 0 ([] : List ByteArray)).bind fun t311 => (if t311 = true then (if t302 = 1 then ((counterfoillaw15_awake.f kj2).bind fun t312 => (some t312)) else (some false)) else (some false)))) = some r := by rw [if_pos rfl] at H; exact H
        clear H
        have H := H1
        clear H1
        replace H := Option.bind_eq_some_iff.mp H
        obtain ⟨⟨t304, t305, t306, t307, t308⟩, A100, H⟩ := H
        replace H : ((counterfoilref15_Equal.f kj2 t304 t305 t306 t307 t308 0 0 0 0 ([] : List ByteArray)).bind fun t311 => (if t311 = true then (if t302 = 1 then ((counterfoillaw15_awake.f kj2).bind fun t312 => (some t312)) else (some false)) else (some false))) = some r := H
        have A10 := Aside0.mk A100
        clear A100
        replace H := Option.bind_eq_some_iff.mp H
        obtain ⟨t311, A110, H⟩ := H
        replace H : (if t311 = true then (if t302 = 1 then ((counterfoillaw15_awake.f kj2).bind fun t312 => (some t312)) else (some false)) else (some false)) = some r := H
        have A11 := Aside0.mk A110
        clear A110
        by_cases c12 : t311 = true
        · subst c12
          have H1 : (if t302 = 1 then ((counterfoillaw15_awake.f kj2).bind fun t312 => (some t312)) else (some false)) = some r := by rw [if_pos rfl] at H; exact H
          clear H
          have H := H1
          clear H1
          by_cases c13 : t302 = 1
          · rw [if_pos c13] at H
            have c13b0 : (t302 == 1) = true := beq_iff_eq.mpr c13
            have c13b1 : (t302 != 1) = false := bne_eq_false_iff_eq.mpr c13
            clear c13
            replace H := Option.bind_eq_some_iff.mp H
            obtain ⟨t312, A140, H⟩ := H
            replace H : (some t312) = some r := H
            have A14 := Aside0.mk A140
            clear A140
            obtain rfl := Option.some.inj H
            have hcz15_0 : wc.cell? ⟨gb303, 0, none⟩ = some (.int .i64 t295) := (blk_cell BK303.out 0).trans rfl
            have hcz15_1 : wc.cell? ⟨gb303, 1, none⟩ = some (.int .i64 t296) := (blk_cell BK303.out 1).trans rfl
            have hcz15_2 : wc.cell? ⟨gb303, 2, none⟩ = some (.int .i64 t297) := (blk_cell BK303.out 2).trans rfl
            have hcz15_3 : wc.cell? ⟨gb303, 3, none⟩ = some (.slice Ao7 t298.length co7) := (blk_cell BK303.out 3).trans rfl
            have hcz15_4 : wc.cell? ⟨gb303, 4, none⟩ = some (.int .i64 t301) := (blk_cell BK303.out 4).trans rfl
            have hfz15_0 := blk_frozen BK303.out 0
            have hfz15_1 := blk_frozen BK303.out 1
            have hfz15_2 := blk_frozen BK303.out 2
            have hfz15_3 := blk_frozen BK303.out 3
            have hfz15_4 := blk_frozen BK303.out 4
            go_wp2_with (first | ((with_reducible refine gate_callee (f := 16) rfl ?_); refine goesL_ (some 17) rfl rfl Try.func16 (by kernel_rfl) rfl #[.agg #[.int .i64 t295, .int .i64 t296, .int .i64 t297, .slice Ao7 t298.length co7, .int .i64 t301]] rfl (by (try simp only [List.map_toArray, List.map_cons, List.map_nil]); first | done | rfl | (simp only [List.length_drop, List.length_take]; rfl)) ?_; (with_reducible refine (counterfoillaw15_ref.calls t295 t296 t297 (fun k_ => some k_ = (.slice Ao7 t298.length co7 : Value).ownBlock) _ _ t298 t301 t304 t305 t306 t307 t308 _ ?side1 A10.out).mono ?_); (case side1 => exact Kd.R_V (Kd.R_tight rfl (Kd.R_types (HO_304003.out) BK303.out (by decide)))); rintro e w16 ⟨v309, rfl, ho0, hb⟩; refine ⟨_, rfl, ?_⟩; have n0_ := Aside0.mk (Kd.R_below (by (with_reducible repeat (first | apply Kd.R_alloc | apply Kd.R_drewN | apply Kd.R_drew)); exact HO_304003.out) hb); have n1_ := Aside0.mk (Kd.V_lower (Kd.V_mono (ok' := fun k_ => k_ ≠ gb303) ho0 (fun k_ hk_ => Or.elim hk_ (fun hs_ => ((Kd.R_types (HO_304003.out) BK303.out (by decide)).1 k_ hs_.symm).2) (fun hn_ => (Kd.freshB (g := gb303) (o := .cells #[.int .i64 t295, .int .i64 t296, .int .i64 t297, .slice Ao7 t298.length co7, .int .i64 t301] 24 (0, 0)) (by (with_reducible repeat (first | refine blk_drewN ?_ _ | refine blk_drew ?_ | refine blk_alloc ?_ _)); exact BK303.out) k_ hn_)))) (below_size (by repeat (first | (with_reducible first | exact HB.out | apply below_alloc | apply pw_below_drewN | apply below_drew1 | refine below_set ?_ GE303.out) | exact HB.out)))); have n2_ := Aside0.mk (blk_below (g := gb303) (o := .cells #[.int .i64 t295, .int .i64 t296, .int .i64 t297, .slice Ao7 t298.length co7, .int .i64 t301] 24 (0, 0)) (by (with_reducible repeat (first | refine blk_drewN ?_ _ | refine blk_drew ?_ | refine blk_alloc ?_ _)); exact BK303.out) hb); have n3_ := Aside0.mk (below_step (by repeat (first | (with_reducible first | exact HB.out | apply below_alloc | apply pw_below_drewN | apply below_drew1 | refine below_set ?_ GE303.out) | exact HB.out)) hb); clear HO_304003; clear BK303; clear HB; have HO_304003 := n0_; have HO310 := n1_; have BK303 := n2_; have HB := n3_; clear n0_ n1_ n2_ n3_; (try clear hb); (try clear hb2); (try clear hk); (try clear hi); (try clear ho0); obtain ⟨Ao17, co17, eo17⟩ := Kd.V_slice HO310.out; subst eo17) | ((with_reducible refine gate_callee (f := 17) rfl ?_); refine goesL_ (some 19) rfl rfl Try.func17 (by kernel_rfl) rfl #[.agg #[.int .i64 t304, .int .i64 t305, .int .i64 t306, .int .i64 t307, .slice Ao17 t308.length co17], .agg #[.int .i64 0, .int .i64 0, .int .i64 0, .int .i64 0, .slice none 0 0]] rfl (by (try simp only [List.map_toArray, List.map_cons, List.map_nil]); first | done | rfl | (simp only [List.length_drop, List.length_take]; rfl)) ?_; (refine (counterfoilref15_Equal.calls kj2 t304 t305 t306 t307 _ _ t308 0 0 0 0 _ _ ([] : List ByteArray) true _ ?side1 ?side2 ?side3 ?side4 A11.out).mono ?_); (case side1 => repeat (first | exact (Kd.V_reads' HO310.out).2.2 | (with_reducible refine Kd.C_alloc ?_ _) | (with_reducible refine Kd.C_drewN ?_ _) | (with_reducible refine Kd.C_drew ?_))); (case side2 => exact (Kd.V_reads' HO310.out).2.1); (case side3 => exact Kd.C_nil _ _); (case side4 => exact Nat.le_refl _); rintro e w18 ⟨rfl, hb⟩; refine ⟨_, rfl, ?_⟩; have n0_ := Aside0.mk (Kd.R_below (by (with_reducible repeat (first | apply Kd.R_alloc | apply Kd.R_drewN | apply Kd.R_drew)); exact HO_304003.out) hb); have n1_ := Aside0.mk (Kd.V_below (by (with_reducible repeat (first | apply Kd.V_alloc | apply Kd.V_drewN | apply Kd.V_drew)); exact HO310.out) hb); have n2_ := Aside0.mk (blk_below (g := gb303) (o := .cells #[.int .i64 t295, .int .i64 t296, .int .i64 t297, .slice Ao7 t298.length co7, .int .i64 t301] 24 (0, 0)) (by (with_reducible repeat (first | refine blk_drewN ?_ _ | refine blk_drew ?_ | refine blk_alloc ?_ _)); exact BK303.out) hb); have n3_ := Aside0.mk (below_step (by repeat (first | (with_reducible first | exact HB.out | apply below_alloc | apply pw_below_drewN | apply below_drew1 | refine below_set ?_ GE303.out) | exact HB.out)) hb); clear HO_304003; clear HO310; clear BK303; clear HB; have HO_304003 := n0_; have HO310 := n1_; have BK303 := n2_; have HB := n3_; clear n0_ n1_ n2_ n3_; (try clear hb); (try clear hb2); (try clear hk); (try clear hi)) | (go_at_call 11; (with_reducible refine (counterfoillaw15_awake.calls kj2  t312 _ A14.out).mono ?_); rintro e w19 ⟨rfl, hb⟩; have n0_ := Aside0.mk (Kd.R_below (by (with_reducible repeat (first | apply Kd.R_alloc | apply Kd.R_drewN | apply Kd.R_drew)); exact HO_304003.out) hb); have n1_ := Aside0.mk (Kd.V_below (by (with_reducible repeat (first | apply Kd.V_alloc | apply Kd.V_drewN | apply Kd.V_drew)); exact HO310.out) hb); have n2_ := Aside0.mk (blk_below (g := gb303) (o := .cells #[.int .i64 t295, .int .i64 t296, .int .i64 t297, .slice Ao7 t298.length co7, .int .i64 t301] 24 (0, 0)) (by (with_reducible repeat (first | refine blk_drewN ?_ _ | refine blk_drew ?_ | refine blk_alloc ?_ _)); exact BK303.out) hb); have n3_ := Aside0.mk (below_step (by repeat (first | (with_reducible first | exact HB.out | apply below_alloc | apply pw_below_drewN | apply below_drew1 | refine below_set ?_ GE303.out) | exact HB.out)) hb); clear HO_304003; clear HO310; clear BK303; clear HB; have HO_304003 := n0_; have HO310 := n1_; have BK303 := n2_; have HB := n3_; clear n0_ n1_ n2_ n3_; (try clear hb); (try clear hb2); (try clear hk); (try clear hi)))
            go_ret
            exact ⟨by first | rfl | (simp [errW_none, errW_some] <;> rfl) | (simp [*, errW_none, errW_some] <;> rfl), by repeat (first | (with_reducible first | exact HB.out | apply below_alloc | apply pw_below_drewN | apply below_drew1 | refine below_set ?_ GE303.out) | exact HB.out)⟩
          · rw [if_neg c13] at H
            have c13b0 : (t302 == 1) = false := beq_eq_false_iff_ne.mpr c13
            have c13b1 : (t302 != 1) = true := bne_iff_ne.mpr c13
            exact absurd H (by simp [hr_])
        · replace c12 := Bool.eq_false_iff.mpr c12
          subst c12
          have H1 : (some false) = some r := by rw [if_neg (show ¬ (false = true) by decide)] at H; exact H
          clear H
          have H := H1
          clear H1
          exact absurd H (by simp [hr_])
      · replace c9 := Bool.eq_false_iff.mpr c9
        subst c9
        have H1 : ((counterfoillaw15_ref.f t295 t296 t297 t298 t301).bind fun bt313 => ((counterfoilref15_Equal.f kj2 bt313.1 bt313.2.1 bt313.2.2.1 bt313.2.2.2.1 bt313.2.2.2.2 a0 0 1 1 ([] : List ByteArray)).bind fun t320 => (if t320 = true then (if t302 = 0 then ((counterfoillaw15_awake.f kj2).bind fun t321 => (some t321)) else (some false)) else (some false)))) = some r := by rw [if_neg (show ¬ (false = true) by decide)] at H; exact H
        clear H
        have H := H1
        clear H1
        replace H := Option.bind_eq_some_iff.mp H
        obtain ⟨⟨t313, t314, t315, t316, t317⟩, A200, H⟩ := H
        replace H : ((counterfoilref15_Equal.f kj2 t313 t314 t315 t316 t317 a0 0 1 1 ([] : List ByteArray)).bind fun t320 => (if t320 = true then (if t302 = 0 then ((counterfoillaw15_awake.f kj2).bind fun t321 => (some t321)) else (some false)) else (some false))) = some r := H
        have A20 := Aside0.mk A200
        clear A200
        replace H := Option.bind_eq_some_iff.mp H
        obtain ⟨t320, A210, H⟩ := H
        replace H : (if t320 = true then (if t302 = 0 then ((counterfoillaw15_awake.f kj2).bind fun t321 => (some t321)) else (some false)) else (some false)) = some r := H
        have A21 := Aside0.mk A210
        clear A210
        by_cases c22 : t320 = true
        · subst c22
          have H1 : (if t302 = 0 then ((counterfoillaw15_awake.f kj2).bind fun t321 => (some t321)) else (some false)) = some r := by rw [if_pos rfl] at H; exact H
          clear H
          have H := H1
          clear H1
          by_cases c23 : t302 = 0
          · rw [if_pos c23] at H
            have c23b0 : (t302 == 0) = true := beq_iff_eq.mpr c23
            have c23b1 : (t302 != 0) = false := bne_eq_false_iff_eq.mpr c23
            clear c23
            replace H := Option.bind_eq_some_iff.mp H
            obtain ⟨t321, A240, H⟩ := H
            replace H : (some t321) = some r := H
            have A24 := Aside0.mk A240
            clear A240
            obtain rfl := Option.some.inj H
            have hcz25_0 : wc.cell? ⟨gb303, 0, none⟩ = some (.int .i64 t295) := (blk_cell BK303.out 0).trans rfl
            have hcz25_1 : wc.cell? ⟨gb303, 1, none⟩ = some (.int .i64 t296) := (blk_cell BK303.out 1).trans rfl
            have hcz25_2 : wc.cell? ⟨gb303, 2, none⟩ = some (.int .i64 t297) := (blk_cell BK303.out 2).trans rfl
            have hcz25_3 : wc.cell? ⟨gb303, 3, none⟩ = some (.slice Ao7 t298.length co7) := (blk_cell BK303.out 3).trans rfl
            have hcz25_4 : wc.cell? ⟨gb303, 4, none⟩ = some (.int .i64 t301) := (blk_cell BK303.out 4).trans rfl
            have hfz25_0 := blk_frozen BK303.out 0
            have hfz25_1 := blk_frozen BK303.out 1
            have hfz25_2 := blk_frozen BK303.out 2
            have hfz25_3 := blk_frozen BK303.out 3
            have hfz25_4 := blk_frozen BK303.out 4
            go_wp2_with (first | ((with_reducible refine gate_callee (f := 16) rfl ?_); refine goesL_ (some 28) rfl rfl Try.func16 (by kernel_rfl) rfl #[.agg #[.int .i64 t295, .int .i64 t296, .int .i64 t297, .slice Ao7 t298.length co7, .int .i64 t301]] rfl (by (try simp only [List.map_toArray, List.map_cons, List.map_nil]); first | done | rfl | (simp only [List.length_drop, List.length_take]; rfl)) ?_; (with_reducible refine (counterfoillaw15_ref.calls t295 t296 t297 (fun k_ => some k_ = (.slice Ao7 t298.length co7 : Value).ownBlock) _ _ t298 t301 t313 t314 t315 t316 t317 _ ?side1 A20.out).mono ?_); (case side1 => exact Kd.R_V (Kd.R_tight rfl (Kd.R_types (HO_304003.out) BK303.out (by decide)))); rintro e w26 ⟨v318, rfl, ho0, hb⟩; refine ⟨_, rfl, ?_⟩; have n0_ := Aside0.mk (Kd.R_below (by (with_reducible repeat (first | apply Kd.R_alloc | apply Kd.R_drewN | apply Kd.R_drew)); exact HO_304003.out) hb); have n1_ := Aside0.mk (Kd.V_lower (Kd.V_mono (ok' := fun k_ => k_ ≠ gb303) ho0 (fun k_ hk_ => Or.elim hk_ (fun hs_ => ((Kd.R_types (HO_304003.out) BK303.out (by decide)).1 k_ hs_.symm).2) (fun hn_ => (Kd.freshB (g := gb303) (o := .cells #[.int .i64 t295, .int .i64 t296, .int .i64 t297, .slice Ao7 t298.length co7, .int .i64 t301] 24 (0, 0)) (by (with_reducible repeat (first | refine blk_drewN ?_ _ | refine blk_drew ?_ | refine blk_alloc ?_ _)); exact BK303.out) k_ hn_)))) (below_size (by repeat (first | (with_reducible first | exact HB.out | apply below_alloc | apply pw_below_drewN | apply below_drew1 | refine below_set ?_ GE303.out) | exact HB.out)))); have n2_ := Aside0.mk (blk_below (g := gb303) (o := .cells #[.int .i64 t295, .int .i64 t296, .int .i64 t297, .slice Ao7 t298.length co7, .int .i64 t301] 24 (0, 0)) (by (with_reducible repeat (first | refine blk_drewN ?_ _ | refine blk_drew ?_ | refine blk_alloc ?_ _)); exact BK303.out) hb); have n3_ := Aside0.mk (below_step (by repeat (first | (with_reducible first | exact HB.out | apply below_alloc | apply pw_below_drewN | apply below_drew1 | refine below_set ?_ GE303.out) | exact HB.out)) hb); clear HO_304003; clear BK303; clear HB; have HO_304003 := n0_; have HO319 := n1_; have BK303 := n2_; have HB := n3_; clear n0_ n1_ n2_ n3_; (try clear hb); (try clear hb2); (try clear hk); (try clear hi); (try clear ho0); obtain ⟨Ao27, co27, eo27⟩ := Kd.V_slice HO319.out; subst eo27) | ((with_reducible refine gate_callee (f := 17) rfl ?_); refine goesL_ (some 31) rfl rfl Try.func17 (by kernel_rfl) rfl #[.agg #[.int .i64 t313, .int .i64 t314, .int .i64 t315, .int .i64 t316, .slice Ao27 t317.length co27], .agg #[.int .i64 a0, .int .i64 0, .int .i64 1, .int .i64 1, .slice none 0 0]] rfl (by (try simp only [List.map_toArray, List.map_cons, List.map_nil]); first | done | rfl | (simp only [List.length_drop, List.length_take]; rfl)) ?_; (refine (counterfoilref15_Equal.calls kj2 t313 t314 t315 t316 _ _ t317 a0 0 1 1 _ _ ([] : List ByteArray) true _ ?side1 ?side2 ?side3 ?side4 A21.out).mono ?_); (case side1 => repeat (first | exact (Kd.V_reads' HO319.out).2.2 | (with_reducible refine Kd.C_alloc ?_ _) | (with_reducible refine Kd.C_drewN ?_ _) | (with_reducible refine Kd.C_drew ?_))); (case side2 => exact (Kd.V_reads' HO319.out).2.1); (case side3 => exact Kd.C_nil _ _); (case side4 => exact Nat.le_refl _); rintro e w28 ⟨rfl, hb⟩; refine ⟨_, rfl, ?_⟩; have n0_ := Aside0.mk (Kd.R_below (by (with_reducible repeat (first | apply Kd.R_alloc | apply Kd.R_drewN | apply Kd.R_drew)); exact HO_304003.out) hb); have n1_ := Aside0.mk (Kd.V_below (by (with_reducible repeat (first | apply Kd.V_alloc | apply Kd.V_drewN | apply Kd.V_drew)); exact HO319.out) hb); have n2_ := Aside0.mk (blk_below (g := gb303) (o := .cells #[.int .i64 t295, .int .i64 t296, .int .i64 t297, .slice Ao7 t298.length co7, .int .i64 t301] 24 (0, 0)) (by (with_reducible repeat (first | refine blk_drewN ?_ _ | refine blk_drew ?_ | refine blk_alloc ?_ _)); exact BK303.out) hb); have n3_ := Aside0.mk (below_step (by repeat (first | (with_reducible first | exact HB.out | apply below_alloc | apply pw_below_drewN | apply below_drew1 | refine below_set ?_ GE303.out) | exact HB.out)) hb); clear HO_304003; clear HO319; clear BK303; clear HB; have HO_304003 := n0_; have HO319 := n1_; have BK303 := n2_; have HB := n3_; clear n0_ n1_ n2_ n3_; (try clear hb); (try clear hb2); (try clear hk); (try clear hi)) | (go_at_call 11; (with_reducible refine (counterfoillaw15_awake.calls kj2  t321 _ A24.out).mono ?_); rintro e w29 ⟨rfl, hb⟩; have n0_ := Aside0.mk (Kd.R_below (by (with_reducible repeat (first | apply Kd.R_alloc | apply Kd.R_drewN | apply Kd.R_drew)); exact HO_304003.out) hb); have n1_ := Aside0.mk (Kd.V_below (by (with_reducible repeat (first | apply Kd.V_alloc | apply Kd.V_drewN | apply Kd.V_drew)); exact HO319.out) hb); have n2_ := Aside0.mk (blk_below (g := gb303) (o := .cells #[.int .i64 t295, .int .i64 t296, .int .i64 t297, .slice Ao7 t298.length co7, .int .i64 t301] 24 (0, 0)) (by (with_reducible repeat (first | refine blk_drewN ?_ _ | refine blk_drew ?_ | refine blk_alloc ?_ _)); exact BK303.out) hb); have n3_ := Aside0.mk (below_step (by repeat (first | (with_reducible first | exact HB.out | apply below_alloc | apply pw_below_drewN | apply below_drew1 | refine below_set ?_ GE303.out) | exact HB.out)) hb); clear HO_304003; clear HO319; clear BK303; clear HB; have HO_304003 := n0_; have HO319 := n1_; have BK303 := n2_; have HB := n3_; clear n0_ n1_ n2_ n3_; (try clear hb); (try clear hb2); (try clear hk); (try clear hi)))
            go_ret
            exact ⟨by first | rfl | (simp [errW_none, errW_some] <;> rfl) | (simp [*, errW_none, errW_some] <;> rfl), by repeat (first | (with_reducible first | exact HB.out | apply below_alloc | apply pw_below_drewN | apply below_drew1 | refine below_set ?_ GE303.out) | exact HB.out)⟩
          · rw [if_neg c23] at H
            have c23b0 : (t302 == 0) = false := beq_eq_false_iff_ne.mpr c23
            have c23b1 : (t302 != 0) = true := bne_iff_ne.mpr c23
            exact absurd H (by simp [hr_])
        · replace c22 := Bool.eq_false_iff.mpr c22
          subst c22
          have H1 : (some false) = some r := by rw [if_neg (show ¬ (false = true) by decide)] at H; exact H
          clear H
          have H := H1
          clear H1
          exact absurd H (by simp [hr_])

/-- THE ONE PURE STATEMENT of counterfoillaw15_LinkNews: yours. -/
def counterfoillaw15_LinkNews.Pure : Prop := ∀ (a0 : Int), (Lit.int .i64 a0).wf = true → ∃ k, counterfoillaw15_LinkNews.f k a0 = some true
theorem counterfoillaw15_LinkNews.walk (P : counterfoillaw15_LinkNews.Pure) (a0 : Int) (w : World) (w0 : (Lit.int .i64 a0).wf = true) :
    Calls Try.prog 4 #[.int .i64 a0] w fun e w' => e = .returned (.bool true) ∧ Below w.heap.size w w' := by
  obtain ⟨k, h⟩ := P a0 w0
  refine (counterfoillaw15_LinkNews.calls k a0 true w rfl h).mono ?_
  rintro e w' ⟨rfl, hd⟩
  exact ⟨rfl, hd⟩

end Go.Proofs.Ytgfmdfgibkkfaaa.P
